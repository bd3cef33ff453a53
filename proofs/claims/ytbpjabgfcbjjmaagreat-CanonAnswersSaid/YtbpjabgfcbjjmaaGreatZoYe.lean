/- Contracts and lemmas: Zo Ops Zq. Conditions: as each says. -/
import Derived.Test.YtbpjabgfcbjjmaaGreatDslYe
set_option linter.all false
set_option maxHeartbeats 4000000
set_option maxRecDepth 100000
namespace Go.Proofs.YtbpjabgfcbjjmaaGreat
open Go.RowKit Am Go.Proofs.Tryz
attribute [local go_sem ↓] Go.wp_at_zero Go.wp_at_succ
variable {y:Int}{cs:List Value}{fuel:Nat}
structure SmallAt (w:World) (A:OA) (ls:List (List Int)):Prop where
  at_:∀(k:Nat) (r:List Int),ls[k]? = some r->r.length=5/\∃b o:Nat,A=some ⟨b,o,none⟩/\∀(j:Nat) (x:Int),r[j]? = some x->χ w b (o+k*5+j) (.int .i8 x)
theorem SmallAt.below{w w':World}{A:OA}{ls:List (List Int)}(h:SmallAt w A ls)(c:Below w w w'):SmallAt w' A ls:=⟨λk r hk=>by obtain⟨h1,b,o,e,a⟩:=h.at_ k r hk;grind[zab]⟩
theorem SmallAt.alloc{w:World}{A:OA}{ls:List (List Int)}(h:SmallAt w A ls)(o:Obj):SmallAt (w.alloc o) A ls:=h.below (zae w o)
theorem SmallAt.drew{w:World}{A:OA}{ls:List (List Int)}(h:SmallAt w A ls):SmallAt w.drew A ls:=h.below (zap w 1)
def y2W (x:Int):Int:=x.tmod 10
def smN (x:Int):Nat:=(x.tmod 4).toNat
def y13 (x:Int):Int:=1+(IntKind.u8.wrap x).tmod 3
def y12 (n:Nat) (cs:List Int):List Int:=(cs.take n).map y2W
def y4s (n:Nat) (r:List Int):ZRow:=⟨(r.take n).map y2W,y13 (r.getD 3 0),y2W (r.getD 4 0)⟩
def y2a (n:Nat) (ls:List (List Int)):List ZRow:=(ls.take 3).map (y4s n)
theorem y1X(x:Int):(y2W x).natAbs<=9:=by unfold y2W;rw[Int.natAbs_tmod];grind
theorem y4r{x:Int}(h:0<=x):smN x<=3/\x.tmod 4=(smN x:Int):=by unfold smN;grind
theorem y25(x:Int):y13 x=1\/y13 x=2\/y13 x=3:=by
 unfold y13;have h0:0<=IntKind.u8.wrap x:=by unfold IntKind.wrap IntKind.signed IntKind.bits;simp;omega
 grind
theorem y4q(x:Int):1+x%256%3=y13 x:=by
 unfold y13;have h:IntKind.u8.wrap x=x%256:=by rfl
 rw[h,Int.tmod_eq_emod_of_nonneg ω]
theorem y4t{b:Int}(hc:0<=b)(d e f:Int){ls:List (List Int)}(g:∀r∈ls,r.length=5):SmallP (smN b) (y12 (smN b) [d,e,f]) (y2a (smN b) ls):=by
 have i:=(y4r hc).1;have hm:∀p∈y2a (smN b) ls,∃r∈ls,p=y4s (smN b) r:=λp a=>by obtain⟨r,hr,rfl⟩:=ZH.1 a;exact⟨r,Yh hr,rfl⟩
 refine⟨?_,i,?_,λp a=>?_,λp a=>?_,λx c=>?_,λp a=>?_⟩;unfold y12;rw[ZK,ZG];show min _ 3=_;omega
 unfold y2a;rw[ZK,ZG];omega;obtain⟨r,hr,rfl⟩:=hm p a;show((r.take _).map y2W).length=_
 rw[ZK,ZG,g r hr];omega;obtain⟨r,_,rfl⟩:=hm p a;exact y25 _;obtain⟨y,_,rfl⟩:=ZH.1 c;exact y1X y;obtain⟨r,_,rfl⟩:=hm p a;exact⟨λx c=>by obtain⟨y,_,rfl⟩:=ZH.1 c;exact y1X y,y1X _⟩
def y3Q (w:World) (nC:Nat) (cost:List Int) (rows:List ZRow) (e:Ending) (w':World):Prop:=∃(aC:OA) (cC:Nat) (aR:OA) (cR:Nat) (lR:List Value),e=.returned (.agg #[(aC,nC,cC),(aR,rows.length,cR)])/\IntsZ w' w (aC,nC,cC) cost/\ZRows w' w.heap.size (aR,rows.length,cR) lR rows/\Below w w w'
theorem y5x(h:y.natAbs<=9):IntKind.i8.wrap y=y:=by unfold IntKind.wrap IntKind.signed IntKind.bits;simp;omega
theorem y50(h:0<=y)(a:y<=9):IntKind.u8.wrap y=y:=by unfold IntKind.wrap IntKind.signed IntKind.bits;simp;omega
theorem i64_in(h:y.natAbs<=1000):IntKind.i64.wrap y=y:=y1v ω
namespace Lw
theorem y6q(z q s u:Int)(A:OA)(e P:Nat)(ls:List (List Int))(w:World)(hl:SmallAt w A ls)(hn:e=ls.length)(h0:0<=z)(hb:e<=9223372036854775807) :
  Calls prog 11 #[.agg #[.int .u8 z,.int .i8 q,.int .i8 s,.int .i8 u,(A,e,P)]] w (y3Q w (smN z) (y12 (smN z) [q,s,u]) (y2a (smN z) ls)):=by
 refine μ3 hl hn (show ∀j,j<3->∃x,[q,s,u][j]? = some x from λj hj=>⟨_,Ze (by simpa using hj)⟩) λHL bp bk=>?_;obtain⟨ce,bX⟩:=y4r h0;generalize smN z=n at *
 have ci:IntKind.u8.wrap (n:Int)=(n:Int):=y50 ω ω;have cj:IntKind.i64.wrap (n:Int)=(n:Int):=i64_in ω;clear hl hn;obtain⟨W,hW⟩:∃W,((w.alloc (.cells #[.int .u8 z,.int .i8 q,.int .i8 s,.int .i8 u,(A,e,P)] 26)).alloc (.cells #[(),()] 44))=W:=⟨_,rfl⟩
 refine μ3 (show θ W w.heap.size #[.int .u8 z,.int .i8 q,.int .i8 s,.int .i8 u,(A,e,P)] 26by rw[<-hW];exact zak (zam σ)) (show θ W (w.heap.size+1) #[(),()] 44by rw[<-hW];exact zam σ) (show Below w w W by rw[<-hW];exact(zae w _).alloc σ _) λaa aS X=>?_;obtain⟨cv,cz,cw,cs,cE,cK,cY,cT,c3,cV⟩:=bc5 aa.o;obtain⟨cJ,cH,cS,cD,cF,cM,cN,cA⟩:=bf2 aS.o;go_enter func11,ntmps11;go_wp2_with fail
 clear hW
 go_loopw [5] (λjv wr=>∃(j:Nat) (c:OA) (d:Nat),jv=.int .i64 j/\j<=n/\θ wr W.heap.size #[.slice c j d,()] 44/\IntsZ wr W.heap.size (.slice c j d) (y12 j [q,s,u])/\Below W.heap.size W wr)
  (λjv _=>n-(intOf jv).toNat)
 case atStart=>exact⟨0,none,0,rfl,Zb _,zal _ _ _,IntsZ.nil _ _,zae W _⟩
 rename World=>wr
 obtain⟨j,c,d,rfl,hj,hk,F,E⟩:=hrel;refine μ4 hk F F.len E λKP HI bn I=>?_;have ca:W.heap.size<wr.heap.size:=(ZS.1 hk).1;clear hk F E;by_cases b9:j<n
 ·obtain⟨x,B⟩:=bk.o j ω;have HT:=un (show y12 (j+1) [q,s,u]=y12 j [q,s,u]++[y2W x]from map_take B);have G:χ W w (1+j) (.int .i8 x):=by rw[zac aa.o];rcases(show j=0\/j=1\/j=2 by omega)with rfl | rfl | rfl<;>(simp at B;subst B;rfl)
  have U:=y1X x;have a1:x.tmod 10=y2W x:=rfl;generalize y2W x=y at *
  have a2:=y5x U;have a3:IntKind.i64.wrap y=y:=i64_in ω;have y1:=zab I.o G;obtain⟨k0,aD,aG,aH,k1,aF,aI,aJ⟩:=bf2 KP.o;have cr:=zaa y1;have b3:(j:Int)<(n:Int):=ω;have b2:(j:Int)<3:=ω;have b1:(0:Int)<=(j:Int):=Zf _;clear B;go_upto_region 6 with fail
  refine zaS (S:=λw'=>χ w' W.heap.size 0 (.slice c j d)/\χ w' w (1+j) (.int .i8 x)) [11] (h:=λhHeld=>?_);refine zaw [0,1,2,3,4,5,6,7] ?_;repeat refine tkL (hS:=hHeld) (h:=?_)
  refine zao ?_;refine zaB 8 (h:=λK b=>?_);go_simp;refine shutOn b λhHeld=>?_;clear b K;refine zaB 9 (h:=λK b=>?_);(refine wps rfl (λK T=>y1n (N:=j+1) _ _ rfl rfl (HI.o.drew.alloc _) rfl (ys:=[y]) (y19 (zal _ _ _) rfl) (by rw[<-bn.o]) ω (by simp;omega) K T) ?_;rintro _ w7 ⟨A7,c7,rfl,hI7,hk7,hb7,hf7,ho7⟩;refine μ3 hI7 ((bdrew (Xh I.o I.o.size _)).trans hb7) (hk7.blk (zak KP.o) δ) λam D ap=>?_;obtain⟨v0,a7,a9,ba,v1,a8,bb,bc⟩:=bf2 ap.o;have u1:=zab D.o G;clear hI7 hk7 hb7 hf7 ho7);refine shutOn b λhHeld=>?_;clear b K;refine zaw [10] ?_;repeat refine tkL (hS:=hHeld) (h:=?_)
  refine zao ?_;refine zay 11 (h:=λK b=>?_);go_simp;refine shutOff b ?_;clear b K;refine zaM (h:=?_);go_wp2_with fail
  go_roundw
  case rel=>exact⟨j+1,A7,c7,by go_num,ω,zar _ ap.o,by rw[HT.o];exact am.o.tk (TKeep.set ap.o (o:=0) _) δ,bsc (p:=⟨W.heap.size,0,none⟩) D.o (Za _)⟩
  case measure=>simp[intOf];omega
 obtain rfl:j=n:=ω;obtain⟨M,hM⟩:∃M,(ls.take 3).length=M:=⟨_,rfl⟩
 have HM:=un hM;have bV:M<=3/\M<=e/\(M=3\/M=e):=by rw[<-hM,ZG,<-bp.o];omega
 clear hM;go_wp2_with fail
 go_loopw [6] (λkv a=>∃(k:Nat) (g:OA) (l:Nat) (V:List Value),kv=.int .i64 k/\k<=M/\θ a W.heap.size #[.slice c j d,(g,k,l)] 44/\IntsZ a W.heap.size (.slice c j d) (y12 j [q,s,u])/\ZRows a W.heap.size (g,k,l) V (((ls.take 3).take k).map (y4s j))/\Below W.heap.size W a)
  (λkv _=>M-(intOf kv).toNat)
 case atStart=>exact⟨0,none,0,[],rfl,Zb _,KP.o,HI.o,ZRows.nil _ _,I.o⟩
 rename World=>a
 obtain⟨k,g,l,V,rfl,hk,ax,F,hR,E⟩:=hrel;refine μ5 ax F hR hR.nlen E λKQ al aO bt m=>?_;have cd:W.heap.size<a.heap.size:=(ZS.1 ax).1;have q4:χ W w 4 (A,e,P):=zac aa.o 4;have y4:=zab E q4;clear ax F hR E KP HI I;have b4:(0:Int)<=(k:Int):=Zf _;by_cases bE:k<M
 ·obtain⟨r,hr⟩:∃r,(ls.take 3)[k]? = some r:=⟨(ls.take 3)[k]'(by rw[HM.o];exact bE),Ze _⟩
  have HT:=un (map_take (f:=y4s j) hr);have a0:ls[k]? = some r:=by rw[Yr]at hr;split at hr;exact hr;cases hr
  obtain⟨az,bL,oL,rfl,aW⟩:=HL.o.at_ k r a0;have bq:=un az;have aj:=un (λj (hj:j<5)=>show χ W bL (oL+k*5+j) (.int .i8 (r.getD j 0))from zab X.o (aW j _ (zaO (by rw[az];exact hj))));have b7:(k:Int)<(e:Int):=ω;have bC:(k:Int)<3:=ω;clear hr a0 az aW;go_wp2_with fail
  go_loopw [8] (λiv C=>∃(i:Nat) (O:OA) (cX:Nat),iv=.int .i64 i/\i<=j/\θ C a.heap.size #[(O,i,cX),.int .i64 0,.int .i64 0] 85/\IntsZ C a.heap.size (O,i,cX) ((r.take i).map y2W)/\Below a.heap.size a C)
   (λiv _=>j-(intOf iv).toNat)
  case atStart=>exact⟨0,none,0,rfl,Zb _,zal _ _ _,IntsZ.nil _ _,zae a _⟩
  rename World=>C
  obtain⟨i,O,cX,rfl,hi,ay,hX,ad⟩:=hrel;refine μ4 ay hX hX.len ad λL HX bx ag=>?_;have cc:a.heap.size<C.heap.size:=(ZS.1 ay).1;have ai:=un (m.o.trans (ad.mono m.o.size));have e4:=zab ad y4;have bB:=zaa e4;obtain⟨k0,aD,aG,aH,k1,aF,aI,aJ,k2,a4,a5,a6⟩:=bf3 L.o;clear ay hX ad;by_cases cb:i<j
  ·obtain⟨x,B⟩:∃x,r[i]? = some x:=⟨r[i]'(by rw[bq.o];omega),Ze _⟩
   have bv:=un (map_take (f:=y2W) B);have G:=aj.o i ω;rw[show r.getD i 0=x by rw[Zg,B];rfl]at G;have U:=y1X x;have a1:x.tmod 10=y2W x:=rfl;generalize y2W x=y at *
   have a2:=y5x U;have a3:IntKind.i64.wrap y=y:=i64_in ω;have e1:=zab ai.o G;have bU:=zaa e1;have b0:(i:Int)<(j:Int):=ω;have bZ:(i:Int)<5:=ω;have bY:(0:Int)<=(i:Int):=Zf _;clear B;go_upto_region 14 with fail
   refine zaS (S:=λw'=>χ w' a.heap.size 0 (O,i,cX)/\χ w' w 4 (.slice (some ⟨bL,oL,none⟩) e P)/\χ w' bL (oL+k*5+i) (.int .i8 x)) [14] (h:=λhHeld=>?_);refine zaw [0,1,2,3,4,5,6,7,8,9,10] ?_;repeat refine tkL (hS:=hHeld) (h:=?_)
   refine zao ?_;refine zaB 11 (h:=λK b=>?_);go_simp;refine shutOn b λhHeld=>?_;clear b K;refine zaB 12 (h:=λK b=>?_);(refine wps rfl (λK T=>y1n (N:=i+1) _ _ rfl rfl (HX.o.drew.alloc _) rfl (ys:=[y]) (y19 (zal _ _ _) rfl) (by rw[<-bx.o]) ω (by simp;omega) K T) ?_;rintro _ w7 ⟨A7,c7,rfl,hI7,hk7,hb7,hf7,ho7⟩;refine μ3 hI7 ((bdrew (Xh ag.o ag.o.size _)).trans hb7) (hk7.blk (zak L.o) δ) λam D aq=>?_;obtain⟨v0,a7,a9,ba,v1,a8,bb,bc,v2,cn,co,cp⟩:=bf3 aq.o;have u4:=zab D.o y4;have u1:=zab (m.o.trans (D.o.mono m.o.size)) G;clear hI7 hk7 hb7 hf7 ho7);refine shutOn b λhHeld=>?_;clear b K;refine zaw [13] ?_;repeat refine tkL (hS:=hHeld) (h:=?_)
   refine zao ?_;refine zay 14 (h:=λK b=>?_);go_simp;refine shutOff b ?_;clear b K;refine zaM (h:=?_);go_wp2_with fail
   go_roundw
   case rel=>exact⟨i+1,A7,c7,by go_num,ω,zar _ aq.o,by rw[bv.o];exact am.o.tk (TKeep.set aq.o (o:=0) _) δ,bsc (p:=⟨a.heap.size,0,none⟩) D.o (Za _)⟩
   case measure=>simp[intOf];omega
  obtain rfl:i=j:=ω;have z3:=zab ai.o (aj.o 3 ω);have z4:=zab ai.o (aj.o 4 ω);have b5:=y25 (r.getD 3 0);have U:=y1X (r.getD 4 0);have a1:(r.getD 4 0).tmod 10=y2W (r.getD 4 0):=rfl;have bu:=un (show y4s i r=⟨(r.take i).map y2W,y13 (r.getD 3 0),y2W (r.getD 4 0)⟩from rfl);have bD:1+(IntKind.u8.wrap (r.getD 3 0)).tmod 3=y13 (r.getD 3 0):=rfl;have b6:=y4q (r.getD 3 0);generalize r.getD 4 0=x4 at *
  generalize r.getD 3 0=x3 at *
  generalize y2W x4=y at *
  generalize y13 x3=kd at *
  obtain⟨t,ht⟩:∃t,(IntKind.u8.wrap x3).tmod 3=t:=⟨_,rfl⟩
  rw[ht]at bD;have a2:=y5x U;have a3:IntKind.i64.wrap y=y:=i64_in ω;have cf:IntKind.u8.wrap t=t:=y50 ω ω;have cg:IntKind.i64.wrap t=t:=i64_in ω;have ch:IntKind.i64.wrap kd=kd:=i64_in ω;go_upto_region 17 with fail
  refine μ3 (show θ ((C.setCell ⟨a.heap.size,1,none⟩ (.int .i64 kd)).setCell ⟨a.heap.size,2,none⟩ (.int .i64 y)) a.heap.size #[(O,i,cX),.int .i64 kd,.int .i64 y] 85from zar _ (zar _ L.o)) ((HX.o.tk (TKeep.set L.o (o:=1) (.int .i64 kd)) δ).tk (TKeep.set (zar _ L.o) (o:=2) (.int .i64 y)) δ) (show Below a.heap.size a ((C.setCell ⟨a.heap.size,1,none⟩ (.int .i64 kd)).setCell ⟨a.heap.size,2,none⟩ (.int .i64 y))from bsc (p:=⟨a.heap.size,2,none⟩) (bsc (p:=⟨a.heap.size,1,none⟩) ag.o (Za _)) (Za _)) λbz bw Y=>?_;clear e4 bB z3 z4 k0 aD aG aH k1 aF aI aJ k2 a4 a5 a6;generalize ((C.setCell ⟨a.heap.size,1,none⟩ (.int .i64 kd)).setCell ⟨a.heap.size,2,none⟩ (.int .i64 y))=w8 at *
  obtain⟨k0,aD,aG,aH,k1,aF,aI,aJ,k2,a4,a5,a6⟩:=bf3 bz.o;have aU:=un (zad Y.o KQ.o);obtain⟨p0,bH,bK,bM,p1,bJ,bN,bO⟩:=bf2 aU.o;refine μ3 (m.o.trans (Y.o.mono m.o.size)) (aO.o.below Y.o) (al.o.below Y.o) λah br bl=>?_;go_wp2_with (at_builtin;go_loud (refine wpl rfl (λK T=>y4C (N:=k+1) _ _ rfl rfl (br.o.alloc _) rfl (r:=⟨(r.take i).map y2W,kd,y⟩) (zal _ _ _) ((bw.o.base (Zb _)).alloc _) (by rw[<-bt.o]) ω (by have:=ah.o.size;simp;omega) K T) ?_;rintro _ w9 ⟨R9,e9,rfl,hR9,hk9,hb9⟩;refine μ4 hR9 (hk9.blk (zak aU.o) δ) ((bl.o.alloc _).tk hk9 δ) ((Xh ah.o ah.o.size _).trans hb9) λbs ac bm bj=>?_;obtain⟨v0,a7,a9,ba,v1,a8,bb,bc⟩:=bf2 ac.o;clear hR9 hk9 hb9))
  go_roundw
  case rel=>exact⟨k+1,R9,e9,_,by go_num,ω,zar _ ac.o,bm.o.tk (TKeep.set ac.o (o:=1) _) δ,by rw[HT.o,bu.o];exact bs.o.tk (TKeep.set ac.o (o:=1) _) δ δ,bsc (p:=⟨W.heap.size,1,none⟩) bj.o (Za _)⟩
  case measure=>simp[intOf];omega
 obtain rfl:k=M:=ω;have an:=un (show ZRows a W.heap.size (g,k,l) V (y2a j ls)by have h:=aO.o;rw[ZZ (Nat.le_of_eq HM.o)]at h;exact h);have Z:=un (show k=(y2a j ls).length from an.o.nlen);obtain⟨p0,bH,bK,bM,p1,bJ,bN,bO⟩:=bf2 KQ.o;refine μ3 (zad m.o aa.o) (zad m.o aS.o) (X.o.trans ((m.o).mono X.o.size)) λbT aM bf=>?_;obtain⟨ct,cx,cu,cy,cC,cI,cZ,cU,c4,cW⟩:=bc5 bT.o;obtain⟨bh,bg,cQ,cB,bi,be,cO,cG⟩:=bf2 aM.o;have af:=X.o.size;by_cases b8:k<e
 ·have bC:¬(k:Int)<3:=ω
  go_wp2;refine Zh (v:=.agg #[.slice c j d,(g,k,l)]) (by simp[results,results11,go_sem,bh,bg,bi,be]) rfl ?_;have J:=aM;have Q:=TKeep.set J.o (o:=0) (.slice c j d);have R:=TKeep.set (zar (o:=0) (.slice c j d) J.o) (o:=1) (g,k,l);exact⟨c,d,g,l,V,by rw[<-Z.o],((al.o.base af).tk Q δ).tk R δ,by rw[<-Z.o];exact((an.o.base af).tk Q δ δ).tk R δ δ,bsc (bsc bf.o)⟩
 skip
 go_wp2;refine Zh (v:=.agg #[.slice c j d,(g,k,l)]) (by simp[results,results11,go_sem,bh,bg,bi,be]) rfl ?_;have J:=aM;have Q:=TKeep.set J.o (o:=0) (.slice c j d);have R:=TKeep.set (zar (o:=0) (.slice c j d) J.o) (o:=1) (g,k,l);exact⟨c,d,g,l,V,by rw[<-Z.o],((al.o.base af).tk Q δ).tk R δ,by rw[<-Z.o];exact((an.o.base af).tk Q δ δ).tk R δ δ,bsc (bsc bf.o)⟩
end Lw
open Go.ChangeShapes Go.WideShapes Go.ChangeAt Go.RowKit Go.Deep
theorem y42:prog.underlying 23=some (.array 3 22):=ξ
theorem y5u:prog.underlying 107=some (.array 5 22):=ξ
theorem y5D:prog.underlying 24=some (.slice 107):=ξ
theorem y21:prog.underlying 22=some (.int .i8):=ξ
theorem y6o:prog.underlying 5=some (.int .u8):=ξ
theorem y3T:prog.cellsOf 22=1:=ξ
theorem y5n:prog.cellsOf 5=1:=ξ
theorem y2z:prog.cellsOf 23=3:=ξ
theorem y2m:prog.cellsOf 107=5:=ξ
theorem y3K:prog.cellsOf 24=1:=ξ
theorem y3L:prog.cellsOf 26=5:=ξ
section
variable {H:Type} {enc:TypeId × Value->H} {W:World} {base:Nat} {sp:Nat->Bool} {held:Bool}
theorem y43{x:DataW H × List MemPlace}(h:DataW.trod enc prog W base sp held fuel 23 cs=some x):∃a b c:Int,cs=[.int .i8 a,.int .i8 b,.int .i8 c]:=by
 obtain⟨ys,l,_,_,j,k,hg⟩:=DataW.trod_array y42 h;rw[y2z]at j
 match cs,j with
 | [c0,c1,c2],_ =>
  have d:=hg 0 ω;have e:=hg 1 ω;have f:=hg 2 ω;rw[y3T]at d e f;rw[Ze (show 0<ys.length by omega)]at d;rw[Ze (show 1<ys.length by omega)]at e;rw[Ze (show 2<ys.length by omega)]at f;obtain⟨a,g,_,_⟩:=X4 y21 d;obtain⟨b,i,_,_⟩:=X4 y21 e;obtain⟨c,hc,_,_⟩:=X4 y21 f;simp at g i hc;exact⟨a,b,c,by rw[g,i,hc]⟩
theorem y5v{x:DataW H × List MemPlace}(h:DataW.trod enc prog W base sp held fuel 107 cs=some x):∃r:List Int,r.length=5/\cs=r.map λx=>.int .i8 x:=by
 obtain⟨ys,q,_,_,j,p,hg⟩:=DataW.trod_array y5u h;rw[y2m]at j
 match cs,j with
 | [c0,c1,c2,c3,c4],_ =>
  have a:=hg 0 ω;have b:=hg 1 ω;have c:=hg 2 ω;have d:=hg 3 ω;have e:=hg 4 ω;rw[y3T]at a b c d e;rw[Ze (show 0<ys.length by omega)]at a;rw[Ze (show 1<ys.length by omega)]at b;rw[Ze (show 2<ys.length by omega)]at c;rw[Ze (show 3<ys.length by omega)]at d;rw[Ze (show 4<ys.length by omega)]at e;obtain⟨k,h0,_,_⟩:=X4 y21 a;obtain⟨l,h1,_,_⟩:=X4 y21 b;obtain⟨m,f,_,_⟩:=X4 y21 c;obtain⟨n,g,_,_⟩:=X4 y21 d;obtain⟨o,i,_,_⟩:=X4 y21 e;simp at h0 h1 f g i;exact⟨[k,l,m,n,o],rfl,by rw[h0,h1,f,g,i];rfl⟩
theorem y4U{x:DataW H × List MemPlace}(h:DataW.trod enc prog W base sp held fuel 24 cs=some x):∃(A:OA) (n cp:Nat) (ls:List (List Int)),cs=[.slice A n cp]/\n=ls.length/\SmallAt W A ls/\n<=cp/\cp<=9223372036854775807:=by
 rcases open_slice y5D h with ⟨c,I⟩ | ⟨a,len,cap,m,q,D,M,c,_,z,hm,l,I,g⟩
 exact⟨none,0,0,[],c,rfl,⟨λk y J=>by simp at J⟩,Za _,δ⟩;have L:0<len->a.spot=none:=by intro h0;obtain⟨p,f,_⟩:=g 0 (by rw[l];split<;>omega);rw[y2m]at f;obtain⟨_,P,u⟩:=World.cells?_some f;have d:=u 0 ω;rw[Ze (show 0<p.length by omega)]at d;have:=World.cell?_spot d;simpa[Addr.add]using this
 have K:∀i,i<len->∃r:List Int,r.length=5/\∃b o:Nat,some a=some ⟨b,o,none⟩/\∀(j:Nat) (x:Int),r[j]? = some x->χ W b (o+i*5+j) (.int .i8 x):=by
  intro i hi;have v:i<m:=by rw[l];split<;>omega
  obtain⟨N,hc,G⟩:=g i v;rw[y2m]at hc;obtain⟨_,O,t⟩:=World.cells?_some hc;obtain⟨r,E,rfl⟩:=y5v G;have F:=L ω;obtain⟨b,o,s⟩:=a;obtain rfl:s=none:=F;refine⟨r,E,b,o,rfl,λj x hj=>?_⟩;have Q:=(ZF.1 hj).1;have e:=t j ω;rw[zmS,zmS,Z2,hj]at e;exact e
 obtain⟨ls,B,C⟩:=zuZ len K;exact⟨some a,len,cap,ls,c,B.symm,⟨C⟩,z,by unfold maxLen at hm;omega⟩
theorem y4Z{x:DataW H × List MemPlace}(h:DataW.trod enc prog W base sp held fuel 26 cs=some x) :
  ∃(g i e f:Int) (A:OA) (d j:Nat) (ls:List (List Int)),cs=[.int .u8 g,.int .i8 i,.int .i8 e,.int .i8 f,.slice A d j]/\SmallAt W A ls/\d=ls.length/\0<=g/\d<=9223372036854775807:=by
 obtain⟨zs,n,_,v,p,s,hg⟩:=DataW.trod_struct underlying26 h;rw[y3L]at p
 match cs,p with
 | [i,e,f,c3,c4],_ =>
  have k:DataW.trod enc prog W base sp held n 5 ([i,e,f,c3,c4].take (prog.cellsOf 5))=zs[0]?:=hg 0 _ rfl;have l:DataW.trod enc prog W base sp held n 23 ([e,f,c3,c4].take (prog.cellsOf 23))=zs[1]?:=hg 1 _ rfl;have m:DataW.trod enc prog W base sp held n 24 ([c4].take (prog.cellsOf 24))=zs[2]?:=hg 2 _ rfl;rw[y5n]at k;rw[y2z]at l;rw[y3K]at m;have y:zs.length=3:=s;rw[Ze (show 0<zs.length by omega)]at k;rw[Ze (show 1<zs.length by omega)]at l;rw[Ze (show 2<zs.length by omega)]at m;obtain⟨g,h0,_,w0⟩:=X4 y6o k;obtain⟨a,b,c,h1⟩:=y43 l;obtain⟨A,d,j,ls,o,q,r,t,u⟩:=y4U m;simp at h0 h1 o;obtain⟨rfl,rfl,rfl⟩:=h1;subst h0 o;exact⟨g,a,b,c,A,d,j,ls,rfl,r,q,by simp[Lit.wf,IntKind.min,IntKind.max,IntKind.signed,IntKind.bits]at w0;omega,ω⟩
end
theorem y44{rows:List ZRow}{k:Nat}{p:ZRow}(h:rows[k]? = some p):toP (rows.take (k+1))=toP (rows.take k)++[toR p]:=map_take h
namespace Vc
theorem y5T(w:World):Calls prog 37 #[()] w (zq5 w (rats [])):=by
 go_enter func37,ntmps37;go_wp2
 go_loopw [3,8] (λa i wr=>a=()/\i=.int .i64 0/\wr=w)
  (λ_ _ _=>0)
 case atStart=>exact⟨rfl,rfl,rfl⟩
 rename World=>wr
 obtain⟨rfl,rfl,rfl⟩:=hrel;go_wp2;go_ret;exact⟨none,0,0,rfl,VecS.nil _ _,Zj _ _⟩
theorem ofZ(A:OA)(n c:Nat)(xs:List Int)(w:World)(h:IntsZ w 0 (A,n,c) xs)(hr:∀x∈xs,x.natAbs<=1000)(d:n<=1000):Calls prog 37 #[(A,n,c)] w (zq5 w (rats xs)):=by obtain⟨h1,b,_,⟨rfl,rfl,rfl⟩ | ⟨g,rfl,_,_⟩⟩:=h.form;grind[y5T];exact of g n c xs w h1 (λj x a=>h.at_ a) (λx a=>by have:=hr x a;omega) ω b
end Vc
def y3b (w:World) (nC:Nat) (cost:List Int) (rows:List ZRow) (e:Ending) (w':World):Prop:=∃(C:OA) (cC:Nat) (R:OA) (cR:Nat) (l:List RR),e=.returned (.agg #[(C,nC,cC),(R,rows.length,cR)]) /\
  VecS w' w (C,nC,cC) (y6C cost)/\RowsL w' w (R,rows.length,cR) l (toP rows)/\Apart (C,nC,cC) l/\From w.heap.size l/\Below w w w'
namespace Lw
theorem y6n(g q s t:Int)(A:OA)(z I:Nat)(ls:List (List Int))(w:World)(L:SmallAt w A ls)(hn:z=ls.length)(h0:0<=g)(c:z<=9223372036854775807) :
  Calls prog 9 #[.agg #[.int .u8 g,.int .i8 q,.int .i8 s,.int .i8 t,(A,z,I)]] w (y3b w (smN g) (y12 (smN g) [q,s,t]) (y2a (smN g) ls)):=by
 have G:=un (y4t h0 q s t (ls:=ls) (λr hr=>by obtain⟨k,hk⟩:=Xv.1 hr;exact(L.at_ k r hk).1));have O:=un (fun(w:World) (L:SmallAt w A ls)=>y6q g q s t A z I ls w L hn h0 c);have cN:=(y4r h0).1;generalize y2a (smN g) ls=rows at *
 generalize y12 (smN g) [q,s,t]=cost at *
 generalize smN g=n at *
 obtain⟨m,hm⟩:∃m,rows.length=m:=⟨_,rfl⟩
 have N:=un hm;have cM:m<=3:=by rw[<-hm];exact G.o.nr
 unfold y3Q at O;unfold y3b;rw[hm]at O ⊢;clear hm hn;obtain⟨W,J⟩:∃W,((w.alloc (.cells #[.int .u8 g,.int .i8 q,.int .i8 s,.int .i8 t,(A,z,I)] 26)).alloc (.cells #[(),()] 33))=W:=⟨_,rfl⟩
 refine μ4 (show θ W w.heap.size #[.int .u8 g,.int .i8 q,.int .i8 s,.int .i8 t,(A,z,I)] 26by rw[<-J];exact zak (zam σ)) (show θ W (w.heap.size+1) #[(),()] 33by rw[<-J];exact zam σ) (show Below w w W by rw[<-J];exact(zae w _).alloc σ _) (show SmallAt W A ls by rw[<-J];exact((L).alloc _).alloc _) λag ah E HL=>?_;obtain⟨bv,bE,bw,bq,bL,bX,cB,cw,cE,cz⟩:=bc5 ag.o;obtain⟨bU,bO,b8,bK,bM,bY,bZ,bG⟩:=bf2 ah.o;clear L;go_enter func9,ntmps9;go_wp2_with fail
 clear J;with_reducible refine(O.o _ HL.o).mono ?_
 rintro e w1 ⟨aC,cC0,aR,cR0,lR,rfl,hC,hR,c⟩;refine μ6 (show θ (w1.alloc (.cells #[(aC,n,cC0),.slice aR m cR0] 44)) w.heap.size #[.int .u8 g,.int .i8 q,.int .i8 s,.int .i8 t,(A,z,I)] 26from zak (zad c ag.o)) (show θ (w1.alloc (.cells #[(aC,n,cC0),.slice aR m cR0] 44)) (w.heap.size+1) #[(),()] 33from zak (zad c ah.o)) (show IntsZ (w1.alloc (.cells #[(aC,n,cC0),.slice aR m cR0] 44)) 0 (aC,n,cC0) cost from((hC.base (Zb _))).alloc _) (show ZRows (w1.alloc (.cells #[(aC,n,cC0),.slice aR m cR0] 44)) 0 (.slice aR m cR0) lR rows from((hR.base (Zb _))).alloc _) (show Below w w (w1.alloc (.cells #[(aC,n,cC0),.slice aR m cR0] 44))from((E.o.trans ((c).mono E.o.size))).alloc ((E.o.trans ((c).mono E.o.size))).size _) (show θ (w1.alloc (.cells #[(aC,n,cC0),.slice aR m cR0] 44)) w1.heap.size #[(aC,n,cC0),.slice aR m cR0] 44from zam σ) λaB ay aT a3 aA aH=>?_;obtain⟨bt,bC,bu,bD,bJ,bQ,cD,cy,cF,cA⟩:=bc5 aB.o;obtain⟨bP,bA,b4,bH,bV,bp,b2,bN⟩:=bf2 ay.o;obtain⟨ca,b0,cb,b1⟩:=bc2 aH.o;clear hC hR;have aS:=un c;clear c;go_wp2_with fail
 with_reducible refine(Vc.ofZ aC n cC0 cost _ aT.o (λx Z=>by have:=G.o.ec x Z;omega) ω).mono ?_
 rintro e d ⟨C,nC,cC,rfl,hv,c⟩;refine μ6 (zad c aB.o) (zad c ay.o) (zad c aH.o) (a3.o.below c) (show VecS d w (C,nC,cC) (rats cost)from(hv.base (Zl E.o.size (Zl aS.o.size σ)))) (aA.o.trans ((c).mono aA.o.size)) λaz aD ac av F ab=>?_;obtain⟨bx,br,bz,bs,ce,b7,cu,ct,cv,cs⟩:=bc5 az.o;obtain⟨bS,bB,bF,bW,bT,bo,b5,bI⟩:=bf2 aD.o;obtain⟨cf,cc,cg,cd⟩:=bc2 ac.o;clear hv c;obtain rfl:nC=n:=by rw[F.o.len];show(cost.map _).length=_;rw[ZK];exact G.o.lc
 replace F:=un (show VecS d w (C,nC,cC) (y6C cost)from F.o)
 go_wp2_with fail
 have cJ:=(ZS.1 ac.o).1;have aU:=F;have V:=un (show w.heap.size<=d.heap.size from ab.o.size)
 go_loopw [5] (λiv wr=>∃(k:Nat) (R:OA) (j:Nat) (l:List RR),iv=.int .i64 k/\k<=m/\θ wr d.heap.size #[(C,nC,cC),(R,k,j)] 33/\RowsL wr d (R,k,j) l (toP (rows.take k))/\Apart (C,nC,cC) l/\From d.heap.size l/\Below d d wr)
  (λiv _=>m-(intOf iv).toNat)
 case atStart=>exact⟨0,none,0,[],rfl,Zb _,zal _ _ _,RowsL.nil _ _,zLa _,zLw _,zae d _⟩
 rename World=>wr
 obtain⟨k,R,j,l,rfl,hk,Y,hL,hA,am,o⟩:=hrel;refine μ4 hA am Y o λHA af ai ae=>?_;have cK:d.heap.size<wr.heap.size:=(ZS.1 Y).1;refine μ8 (zad o az.o) (zad o aD.o) (zad o ac.o) (av.o.below o) (F.o.below o) (show RowsL wr d (R,k,j) l (toP (rows.take k))from hL) (show Bel d wr from Bel.mk o) (ab.o.trans ((o).mono ab.o.size)) λaE D aP bj bl U HW b3=>?_;obtain⟨dU,dC,dV,dD,eh,ee,dt,ey,ds,ez⟩:=bc5 aE.o;obtain⟨cm,ch,ef,d2,cn,ci,ed,d3⟩:=bf2 D.o;obtain⟨es,ei,et,ej⟩:=bc2 aP.o;clear hA am Y hL o;clear bv bE bw bq bL bX cB cw cE cz bU bO b8 bK bM bY bZ bG bt bC bu bD bJ bQ cD cy cF cA bP bA b4 bH bV bp b2 bN ca b0 cb b1 bx br bz bs ce b7 cu ct cv cs bS bB bF bW bT bo b5 bI cf cc cg cd;obtain⟨dj,dq,dg,dl,dk,dr,dh,dn⟩:=bf2 ai.o;by_cases bb:k<m
 ·obtain⟨p,M⟩:∃p,rows[k]? = some p:=⟨rows[k]'(by rw[N.o];exact bb),Ze _⟩
  refine μ3 (y44 M) (G.o.er p (Zz M)) (G.o.co p (Zz M)) λHT P a0=>?_;obtain⟨u,rfl,_,cG⟩:=av.o.has ω;obtain⟨aX,cx,_,k0,k1,k2,X⟩:=bj.o.at_ M;rw[a0.o]at k0 X;have aV:=un X;have bc:=zaa k0;have be:=zaa k1;have bf:=zaa k2;have aZ:=un (show(toP (rows.take k)).length=k by rw[y1N,ZG,N.o];omega);have cH:(0:Int)<=(k:Int):=Zf _;have cI:(k:Int)<(m:Int):=ω;have cO:=V.o;clear X M;go_upto_region 6 with fail
  refine za2 (S:=λw'=>χ w' w1 0 (aC,nC,cC0)/\χ w' w1 1 (.slice (some ⟨u,0,none⟩) m cR0)/\χ w' d 0 (C,nC,cC)/\χ w' d 1 (R,k,j)/\χ w' u (k*3) (aX,nC,cx)/\χ w' u (k*3+1) (.int .i64 p.kind)/\χ w' u (k*3+2) (.int .i64 p.rhs)) 26 (h:=λhHeld=>?_);refine zaw [0,1,2,3,4,5,6,7,9,10,11,12,13,14,15,16,17,18,19,20] ?_;repeat refine tkE (hS:=hHeld) (h:=?_)
  refine zao ?_;refine zaN 8 (h:=λK f=>?_);go_simp;(go_at_call 37;(with_reducible refine(Vc.ofZ aX nC cx p.coef _ aV.o.drew (λx Z=>by have:=P.o.1 x Z;omega) ω).mono ?_);rintro e u1 ⟨Q,nq,cq,rfl,hv,c⟩;refine μ7 (zad c aE.o) (zad c D.o) (zad c aP.o) (zad c ai.o) (U.o.drew.below c) (HW.o.drew.below c) (show VecS u1 wr.heap.size (Q,nq,cq) (rats p.coef)from hv) λaF aG aK aw bm ck T=>?_;obtain⟨dM,dE,dN,dF,el,eg,eu,en,ew,ep⟩:=bc5 aF.o;obtain⟨dS,dI,dO,dK,dT,dJ,dP,dL⟩:=bf2 aG.o;obtain⟨ea,dY,eb,dZ⟩:=bc2 aK.o;obtain⟨dw,du,df,dm,dx,dv,di,dp⟩:=bf2 aw.o;have aI:=zab c bc;have c4:=zaa aI;have aJ:=zab c be;have c7:=zaa aJ;have aL:=zab c bf;have c9:=zaa aL;clear hv c);(try go_wp2_with fail);refine shutOn f λhHeld=>?_;clear f K;refine zaN 21 (h:=λK f=>?_);go_simp;(go_at_call 30;(with_reducible refine(Rt.int p.rhs (by have:=P.o.2;omega) (by have:=P.o.2;omega) _).mono ?_);rintro e u2 ⟨g5,A5,m5,c5,D5,md5,cd5,rfl,hv,c⟩;refine μ8 (zad c aF.o) (zad c aG.o) (zad c aK.o) (zad c aw.o) (bm.o.below c) (ck.o.below c) (T.o.below c) (show RatS u2 g5 (A5,m5,c5) (D5,md5,cd5) (p.rhs:Rat)from hv) λb6 b9 cj ax bn aQ bk a2=>?_;obtain⟨dQ,dG,dR,dH,em,ek,ev,eo,ex,eq⟩:=bc5 b6.o;obtain⟨d8,dW,d6,d0,d9,dX,d7,d1⟩:=bf2 b9.o;obtain⟨cp,d4,cr,d5⟩:=bc2 cj.o;obtain⟨dA,dy,dd,db,dB,dz,de,dc⟩:=bf2 ax.o;have aM:=zab c aI;have c6:=zaa aM;have aN:=zab c aJ;have c8:=zaa aN;have aO:=zab c aL;have da:=zaa aO;have cP:d.heap.size<=u2.heap.size:=aQ.o.b.size;clear hv c);(try go_wp2_with fail);refine shutOn f λhHeld=>?_;clear f K;refine zaw [22] ?_;repeat refine tkE (hS:=hHeld) (h:=?_)
  refine zao ?_;refine zaN 23 (h:=λK f=>?_);go_simp;refine shutOn f λhHeld=>?_;clear f K;refine zaN 24 (h:=λK f=>?_);((refine zKn (by rfl) _ _ (by rfl) (by rfl) (bn.o.alloc _) (by rfl) (zal _ _ _) (p:=toR p) ⟨(bk.o.alloc _).base (Zb _),rfl,a2.o.alloc _⟩ aZ.o ω (by simp;omega) ?_);intro R3 c3 w3 ao ap y;have aY:=un ao;have B:=un (ap.blk (zak ax.o) δ);have p0:χ w3 d 0 (C,nC,cC):=zac B.o 0;have p1:χ w3 d 1 (R,k,j):=zac B.o 1;have cT:=zag B.o 0;have cU:=zag B.o 1;have a6:=un ((aQ.o.alloc _).b.trans y);have s0:=zKh y (show w1.heap.size<d.heap.size by omega) (cell_al (ob:=.cells #[(Q,nq,cq),.int .i64 p.kind,g5,(A5,m5,c5),(D5,md5,cd5)] 101) cp);have s1:=zKh y (show w1.heap.size<d.heap.size by omega) (cell_al (ob:=.cells #[(Q,nq,cq),.int .i64 p.kind,g5,(A5,m5,c5),(D5,md5,cd5)] 101) cr);have s2:=zKh y (show u<d.heap.size by omega) (cell_al (ob:=.cells #[(Q,nq,cq),.int .i64 p.kind,g5,(A5,m5,c5),(D5,md5,cd5)] 101) aM);have s3:=zKh y (show u<d.heap.size by omega) (cell_al (ob:=.cells #[(Q,nq,cq),.int .i64 p.kind,g5,(A5,m5,c5),(D5,md5,cd5)] 101) aN);have s4:=zKh y (show u<d.heap.size by omega) (cell_al (ob:=.cells #[(Q,nq,cq),.int .i64 p.kind,g5,(A5,m5,c5),(D5,md5,cd5)] 101) aO);clear ao ap y);refine shutOn f λhHeld=>?_;clear f K;refine zaw [25] ?_;repeat refine tkE (hS:=hHeld) (h:=?_)
  refine zao ?_;refine zba (h:=λK f=>?_);go_simp;refine shutOff f ?_;clear f K;refine za1 (h:=?_);go_wp2_with fail
  go_roundw
  case rel=>exact⟨k+1,R3,c3,_,by go_num,ω,zar _ B.o,by rw[HT.o];exact aY.o.setT B.o δ δ δ _,zKz HA.o U.o.coefLt (λb c=>X5 (aU.o.lt c).2 ae.o.size) (λb c=>(T.o.lt c).1),zKP af.o (λb c=>Zl ae.o.size (T.o.lt c).1),Xf a6.o (by show d.heap.size<=d.heap.size;exact Za _) _⟩
  case measure=>simp[intOf];omega
 obtain rfl:k=m:=ω;have a1:=un (show RowsL wr d (R,k,j) l (toP rows)by have h:=U.o;rw[ZZ (Nat.le_of_eq N.o)]at h;exact h);go_wp2;refine Zh (v:=.agg #[(C,nC,cC),(R,k,j)]) (by simp[results,results9,go_sem,cm,ch,cn,ci]) rfl ?_;have h2:=(a1.o.base' V.o).setT (a:=⟨w.heap.size+1,0,none⟩) D.o δ δ δ (C,nC,cC);have h3:=h2.setT (a:=⟨w.heap.size+1,1,none⟩) (zar _ D.o) δ δ δ (R,k,j);have v2:=bl.o.setT (p:=⟨w.heap.size+1,0,none⟩) D.o δ δ (C,nC,cC);have v3:=v2.setT (p:=⟨w.heap.size+1,1,none⟩) (zar _ D.o) δ δ (R,k,j);exact⟨C,cC,R,j,l,rfl,v3,h3,HA.o,λi ri b hi c=>Zl V.o (af.o i ri b hi c),bsc (bsc b3.o)⟩
