/- Contracts and lemmas: Zw Zx Zy. Conditions: as each says. -/
import Derived.Test.YtbpjabgfcbjjmaaGreatZtYe
set_option linter.all false
set_option maxHeartbeats 4000000
set_option maxRecDepth 100000
namespace Go.Proofs.YtbpjabgfcbjjmaaGreat
open Go.RowKit Am Go.Proofs.Tryz
open Dz (y1U y14 y1A y1B y1E y1k y1j y1w)
attribute [local go_sem ↓] Go.wp_at_zero Go.wp_at_succ
variable {xs ys:List Int}{l:List Value}{H bA c' k:Nat}{a:OA}{s v:Value}{w w':World}
theorem y1Z{m N:Nat}{A:List (List Int)}{B cs:List Int}(h:SmallZ m N A B cs)(hm:m<=3):SmallZ (m+1) N (y1A A N) (y1B m) cs:=by refine⟨λx a=>?_,λr hr x a=>?_,λx a=>?_,h.cost,ω,h.n7⟩;unfold y1A at a;rcases ZU.1 a with q | q;exact h.rows x q;rw[XE.1 q,ZO];unfold y1A at hr;rcases ZU.1 hr with q | q;exact h.ent r q x a;rw[XE.1 q]at a;rw[(YC.1 a).2];decide;unfold y1B at a;rcases ZU.1 a with q | q;rw[(YC.1 q).2];decide;rw[XE.1 q];decide
theorem TabZ.rerow{M:List (List Int)}(h:TabZ w H v l M)(hk:TKeep 3 w w')(hr:∀(k:Nat) (s:Value) (r:List Int),l[k]? = some s->M[k]? = some r->IntsZ w' 0 s r):TabZ w' H v l M :=
 ⟨h.len,hr,zc9 h.own λk a=>hk k (h.own.lt k a).2 λcs e=>za6 h.own e δ a⟩
theorem TabZ.rowsTk{M:List (List Int)}(h:TabZ w H v l M)(r:Nat):∀(k:Nat) (s:Value) (x:List Int),(l.take r)[k]? = some s->(M.take r)[k]? = some x->IntsZ w 0 s x:=λk s x h1 a=>by
 rw[Yr]at h1 a;split at h1
 rename_i e;rw[if_pos e]at a;exact h.each k s x h1 a;cases h1
theorem y6m(W:World)(x y:Int):(Instr.field 36 (.agg #[.int .i64 x,.int .i64 y]) 0).run prog W=.ok (.int .i64 x) W:=by rfl
namespace Zr
theorem y5S(aA:OA)(m cA:Nat)(lA:List Value)(A:List (List Int))(aB:OA)(cB:Nat)(B:List Int)(aC:OA)(N cC:Nat)(cs:List Int)(own:Int)(w:World)(hA:TabZ w 0 (aA,m,cA) lA A)(hC:IntsZ w 0 (aC,N,cC) cs)(J:SmallZ m N A B cs)(hm:m<=3) :
  Calls prog 41 #[.agg #[(aA,m,cA),(aB,m,cB),(aC,N,cC),.int .i64 own]] w λe w'=>e=.returned (.bool (y1E A (cf cs) N))/\Below w w w':=by
 have ae:=un hA.nlen;have av:=un hA.len;have c2:=J.n7;refine μ5 (fun(w:World) (y:OA) (D:Nat) (lW:List Value) (n:OA) (t:Nat) (hA:TabZ w 0 (y,m+1,D) lW (y1A A N)) (a:IntsZ w 0 (n,m+1,t) (y1B m))=>y4k y (m+1) D lW (y1A A N) n t (y1B m) aC N cC cs own w hA a (y1Z J hm)) (λz (E:z∈y1k (y1A A N) (y1B m) N)=>y1w (y1Z J hm).ent (y1Z J hm).bnd (by unfold y1A;rw[ZD,<-ae.o];show m+1<=4;omega) E) (λz (E:z∈y1k (y1A A N) (y1B m) N)=>(show z.length=N from(Dz.points_fit (y1Z J hm).rows E).1)) (show y1E A (cf cs) N=(y1k (y1A A N) (y1B m) N).any λz=>decide (y1j N (cf cs) (el z)<0)by unfold y1E;rw[<-ae.o]) J.cost λce b6 b7 HW b3=>?_;generalize y1k (y1A A N) (y1B m) N=pz at *
 generalize y1E A (cf cs) N=fb at *
 clear J;obtain⟨W,hW⟩:∃W,(w.alloc (.cells #[(aA,m,cA),(aB,m,cB),(aC,N,cC),.int .i64 own] 73))=W:=⟨_,rfl⟩
 refine μ4 (show θ W w.heap.size #[(aA,m,cA),(aB,m,cB),(aC,N,cC),.int .i64 own] 73by rw[<-hW];exact zam σ) (show Below w w W by rw[<-hW];exact zae w _) (show TabZ W 0 (aA,m,cA) lA A by rw[<-hW];exact(hA).alloc _) (show IntsZ W 0 (aC,N,cC) cs by rw[<-hW];exact(hC).alloc _) λbp BB HA HC=>?_;obtain⟨bY,cK,cI,cG,bZ,cM,cP,cN⟩:=bc4 bp.o;clear hA hC;go_enter func41,ntmps41;go_wp2_with fail
 clear hW
 go_loopw [5] (λrv wr=>∃(r:Nat) (y:OA) (D:Nat) (n:OA) (t:Nat),rv=.int .i64 r/\r<=m/\θ wr W.heap.size #[(y,r,D),(n,r,t),(aC,N,cC),.int .i64 own] 73/\TabZ wr W.heap.size (y,r,D) (lA.take r) (A.take r)/\IntsZ wr W.heap.size (n,r,t) (List.replicate r 0)/\Below W.heap.size W wr)
  (λrv _=>m-(intOf rv).toNat)
 case atStart=>exact⟨0,none,0,none,0,rfl,Zb _,zal _ _ _,TabZ.nil _ _,IntsZ.nil _ _,zae W _⟩
 rename World=>wr
 obtain⟨r,y,D,n,t,rfl,hr,hk,hT,hI,a⟩:=hrel;refine μ6 hk hT hI hT.nlen hI.len a λKW HT HI bm cQ ag=>?_;have q1:=bY;have q0:=bZ;have b5:=HC;have cJ:=un (zad a bp.o);have cF:=un (HA.o.below a);obtain⟨cH,de,dd,df,cL,dg,di,dh⟩:=bc4 cJ.o;clear bY cK cI cG bZ cM cP cN;have cS:W.heap.size<wr.heap.size:=(ZS.1 hk).1;clear hk hT hI a;obtain⟨L,M,T,U,c,P,V,Y,k2,Q,Z,aa,k3,R,ab,ac⟩:=bf4 KW.o;by_cases cv:r<m
 ·obtain⟨row,bb⟩:∃row,A[r]? = some row:=⟨A[r]'(by rw[<-ae.o];exact cv),Ze _⟩
  obtain⟨bA,rfl,_,_⟩:=cF.o.has ω;obtain⟨aX,cx,bB,q2,ax⟩:=HA.o.at_ bb;have z1:=zab ag.o q2
  replace ax:=ax.below ag.o
  refine μ3 ax (show lA.take (r+1)=lA.take r++[.slice aX row.length cx]by rw[Xb,bB];rfl) (show A.take (r+1)=A.take r++[row]by rw[Xb,bb];rfl) λca bh bi=>?_;have c5:(r:Int)<(m:Int):=ω;have c4:(0:Int)<=(r:Int):=Zf _;clear bB ax bb;go_upto_region 6 with fail
  have db:=zaa z1;have z2:=cH;have dc:=zaa z2;refine zaS (S:=λw'=>χ w' W.heap.size 0 (y,r,D)/\χ w' w 0 (bA,m,cA)/\χ w' bA r (.slice aX row.length cx)) [10] (h:=λhHeld=>?_);refine zaw [0,1,2,3,4,5,6] ?_;repeat refine tkL (hS:=hHeld) (h:=?_)
  refine zao ?_;refine zaB 7 (h:=λK b=>?_);go_simp;refine shutOn b λhHeld=>?_;clear b K;refine zaB 8 (h:=λK b=>?_);(refine wps rfl (λK u=>y1Q (N:=r+1) _ _ rfl rfl (HT.o.drew.alloc _) rfl (zal _ _ _) ((ca.o.drew).alloc _) (by rw[<-bm.o]) ω (by simp;omega) K u) ?_;rintro _ w7 ⟨aW7,cW7,rfl,hT7,hk7,hb7,hf7,ho7⟩;refine μ4 hT7 ((bdrew (Xh ag.o ag.o.size _)).trans hb7) (hk7.blk (zak KW.o) δ) ((HI.o.drew.alloc _).tk hk7 δ) λa2 ak d aU=>?_;obtain⟨v0,az,aI,aJ,v1,aD,aK,aL,v2,aF,aM,aN,v3,aH,aO,aP⟩:=bf4 d.o;have u1:=zab ak.o q1;have u2:=zab ak.o q2;clear hT7 hk7 hb7 hf7 ho7);refine shutOn b λhHeld=>?_;clear b K;refine zaw [9] ?_;repeat refine tkL (hS:=hHeld) (h:=?_)
  refine zao ?_;refine zay 10 (h:=λK b=>?_);go_simp;refine shutOff b ?_;clear b K;refine zaM (h:=?_);refine μ4 (show θ (w7.setCell ⟨W.heap.size,0,none⟩ (aW7,r+1,cW7)) W.heap.size #[(aW7,r+1,cW7),(n,r,t),(aC,N,cC),.int .i64 own] 73from zar _ d.o) (a2.o.tk (TKeep.set d.o (o:=0) (aW7,r+1,cW7)) δ δ) (aU.o.tk (TKeep.set d.o (o:=0) (aW7,r+1,cW7)) δ) (show Below W.heap.size W (w7.setCell ⟨W.heap.size,0,none⟩ (aW7,r+1,cW7))from bsc (p:=⟨W.heap.size,0,none⟩) ak.o (Za _)) λG a3 aV al=>?_;clear u1 u2 v0 az aI aJ v1 aD aK aL v2 aF aM aN v3 aH aO aP hHeld;generalize w7.setCell ⟨W.heap.size,0,none⟩ (aW7,r+1,cW7)=w8 at *
  obtain⟨v0,az,aI,aJ,v1,aD,aK,aL,v2,aF,aM,aN,v3,aH,aO,aP⟩:=bf4 G.o;have cr:W.heap.size<w8.heap.size:=(ZS.1 G.o).1;go_wp2_with (at_builtin;go_loud (refine wpl rfl (λK u=>y1n (N:=r+1) _ _ rfl rfl (aV.o.alloc _) rfl (ys:=[0]) (y19 (zal _ _ _) rfl) (by rw[ZO]) ω (by simp;omega) K u) ?_;rintro _ v ⟨bW9,dW9,rfl,hI9,hk9,hb9,hf9,ho9⟩;refine μ3 hI9 ((Xh al.o al.o.size _).trans hb9) (hk9.blk (zak G.o) δ) λaY am f=>?_;have an:=un ((a3.o.alloc _).rerow hk9 (by rw[<-bh.o,<-bi.o];exact(HA.o.below am.o).rowsTk (r+1)));obtain⟨t0,bG,bN,bP,t1,bI,bQ,bR,t2,bK,bS,bT,t3,bM,bU,bV⟩:=bf4 f.o;clear hI9 hk9 hb9 hf9 ho9))
  go_roundw
  case rel=>exact⟨r+1,aW7,cW7,bW9,dW9,by go_num,ω,zar _ f.o,by rw[bh.o,bi.o];exact an.o.tk (TKeep.set f.o (o:=1) _) δ δ,by rw[Yg];exact aY.o.tk (TKeep.set f.o (o:=1) _) δ,bsc (p:=⟨W.heap.size,1,none⟩) am.o (Za _)⟩
  case measure=>simp[intOf];omega
 obtain rfl:r=m:=ω;have ci:=un (show TabZ wr W.heap.size (y,r,D) lA A by have h:=HT.o;rw[ZZ (by rw[av.o,<-ae.o];exact Za _),ZZ (by rw[<-ae.o];exact Za _)]at h;exact h);clear L M T U c P V Y k2 Q Z aa k3 R ab ac bm HT;have q2:=cL;go_wp2_with fail
 go_loopw [4,6] (λxv jv wx=>∃(j:Nat) (X:OA) (cX:Nat),jv=.int .i64 j/\xv=(X,j,cX)/\j<=N/\IntsZ wx wr.heap.size (X,j,cX) (List.replicate j 1)/\Below wr.heap.size wr wx)
  (λ_ jv _=>N-(intOf jv).toNat)
 case atStart=>exact⟨0,none,0,rfl,rfl,Zb _,IntsZ.nil _ _,Zj _ _⟩
 rename World=>wx
 obtain⟨j,X,cX,rfl,rfl,hj,hX,a⟩:=hrel;have HX:=un hX;have F:=un a;have e2:=zab a q2;clear hX a;by_cases c1:j<N
 ·have c0:(j:Int)<(N:Int):=ω
  go_wp2_with (at_builtin;go_loud (refine wpl rfl (λK u=>y1n (N:=j+1) _ _ rfl rfl (HX.o.alloc _) rfl (ys:=[1]) (y19 (zal _ _ _) rfl) (by rw[ZO]) ω (by have:=F.o.size;simp;omega) K u) ?_;rintro _ w6 ⟨X6,c6,rfl,hI6,hk6,hb6,hf6,ho6⟩;have b9:=un hI6;have b1:=un ((Xh F.o F.o.size _).trans hb6);clear hI6 hk6 hb6 hf6 ho6))
  go_roundw
  case rel=>exact⟨j+1,X6,c6,by go_num,rfl,ω,by rw[Yg];exact b9.o,b1.o⟩
  case measure=>simp[intOf];omega
 obtain rfl:j=N:=ω;refine μ4 (zad F.o KW.o) (ci.o.below F.o) (HI.o.below F.o) (ag.o.trans (F.o.mono ag.o.size)) λa7 cj cb bf=>?_;have cT:W.heap.size<wx.heap.size:=(ZS.1 a7.o).1;obtain⟨L,M,T,U,c,P,V,Y,k2,Q,Z,aa,k3,R,ab,ac⟩:=bf4 a7.o;go_upto_region 13 with (at_builtin;go_loud (refine wpl rfl (λK u=>y1Q (N:=r+1) _ _ rfl rfl (cj.o.alloc _) rfl (zal _ _ _) ((HX.o.base (Zb _)).alloc _) (by rw[<-ae.o]) ω (by simp;omega) K u) ?_;rintro _ w7 ⟨aW7,cW7,rfl,hT7,hk7,hb7,hf7,ho7⟩;refine μ5 hT7 ((Xh bf.o bf.o.size _).trans hb7) (hk7.blk (zak a7.o) δ) ((cb.o.alloc _).tk hk7 δ) ((HX.o.alloc _).tk hk7 δ) λa2 ak d aU ck=>?_;obtain⟨v0,az,aI,aJ,v1,aD,aK,aL,v2,aF,aM,aN,v3,aH,aO,aP⟩:=bf4 d.o;clear hT7 hk7 hb7 hf7 ho7))
 refine μ5 (show θ (w7.setCell ⟨W.heap.size,0,none⟩ (aW7,r+1,cW7)) W.heap.size #[(aW7,r+1,cW7),(n,r,t),(aC,j,cC),.int .i64 own] 73from zar _ d.o) (a2.o.tk (TKeep.set d.o (o:=0) (aW7,r+1,cW7)) δ δ) (aU.o.tk (TKeep.set d.o (o:=0) (aW7,r+1,cW7)) δ) (ck.o.tk (TKeep.set d.o (o:=0) (aW7,r+1,cW7)) δ) (show Below W.heap.size W (w7.setCell ⟨W.heap.size,0,none⟩ (aW7,r+1,cW7))from bsc (p:=⟨W.heap.size,0,none⟩) ak.o (Za _)) λG a3 aV bo al=>?_;clear L M T U c P V Y k2 Q Z aa k3 R ab ac v0 az aI aJ v1 aD aK aL v2 aF aM aN v3 aH aO aP;generalize w7.setCell ⟨W.heap.size,0,none⟩ (aW7,r+1,cW7)=w8 at *
 obtain⟨L,M,T,U,c,P,V,Y,k2,Q,Z,aa,k3,R,ab,ac⟩:=bf4 G.o;have cr:W.heap.size<w8.heap.size:=(ZS.1 G.o).1;have b0:=un (show ∀g,(Value.slice n r t).ownBlock=some g->(Value.slice X j cX).ownBlock≠some g from λg h1 h2=>by have:=(HI.o.own.lt g h1).2;have:=(HX.o.own.lt g h2).1;omega)
 have cg:=un (fun(v:World) (h1:Below W.heap.size W v) (h2:IntsZ v wr.heap.size (X,j,cX) (List.replicate j 1)) (k:Nat) (s:Value) (x:List Int) (I:(lA++[.slice X j cX])[k]? = some s) (h4:(A++[List.replicate j 1])[k]? = some x)=>show IntsZ v 0 s x from by
  by_cases bz:k<lA.length;rw[Z1 bz]at I;rw[Z1 (by rw[<-av.o];exact bz)]at h4;exact(HA.o.below h1).each k s x I h4;rw[ZJ ω]at I;rw[ZJ (by rw[<-av.o];omega),<-av.o]at h4;obtain⟨c,ct⟩:∃c,k-lA.length=c:=⟨_,rfl⟩
  rw[ct]at I h4;cases c with
  | zero=>simp at I h4;subst I h4;exact h2.base (Zb _)
  | succ=>simp at I)
 go_upto_region 14 with (at_builtin;go_loud (refine wpl rfl (λK u=>y1n (N:=r+1) _ _ rfl rfl (aV.o.alloc _) rfl (ys:=[1]) (y19 (zal _ _ _) rfl) (by rw[ZO]) ω (by simp;omega) K u) ?_;rintro _ v ⟨bW9,dW9,rfl,hI9,hk9,hb9,hf9,ho9⟩;refine μ4 hI9 ((Xh al.o al.o.size _).trans hb9) (hk9.blk (zak G.o) δ) ((bo.o.alloc _).keep λg hg=>hf9 g (((bo.o.alloc _).own.lt g hg).2) λe=>b0.o g e hg) λaY am f cl=>?_;have an:=un ((a3.o.alloc _).rerow hk9 (cg.o v am.o cl.o));obtain⟨t0,bG,bN,bP,t1,bI,bQ,bR,t2,bK,bS,bT,t3,bM,bU,bV⟩:=bf4 f.o;clear hI9 hk9 hb9 hf9 ho9))
 refine μ4 (show θ (v.setCell ⟨W.heap.size,1,none⟩ (bW9,r+1,dW9)) W.heap.size #[(aW7,r+1,cW7),(bW9,r+1,dW9),(aC,j,cC),.int .i64 own] 73from zar _ f.o) (show TabZ _ 0 (aW7,r+1,cW7) _ (y1A A j)from(an.o.tk (TKeep.set f.o (o:=1) (bW9,r+1,dW9)) δ δ).base (Zb _)) (show IntsZ _ 0 (bW9,r+1,dW9) (y1B r)from(aY.o.tk (TKeep.set f.o (o:=1) (bW9,r+1,dW9)) δ).base (Zb _)) (show Below W.heap.size W (v.setCell ⟨W.heap.size,1,none⟩ (bW9,r+1,dW9))from bsc (p:=⟨W.heap.size,1,none⟩) am.o (Za _)) λco ch b8 aR=>?_;clear L M T U c P V Y k2 Q Z aa k3 R ab ac t0 bG bN bP t1 bI bQ bR t2 bK bS bT t3 bM bU bV;generalize v.setCell ⟨W.heap.size,1,none⟩ (bW9,r+1,dW9)=w10 at *
 obtain⟨L,M,T,U,c,P,V,Y,k2,Q,Z,aa,k3,R,ab,ac⟩:=bf4 co.o;have q3:=zab aR.o q0;go_wp2_with fail
 refine(ce.o _ aW7 cW7 _ bW9 dW9 ch.o b8.o).mono ?_;rintro e bX ⟨O,cO,l,rfl,hO,hb⟩;have af:=un (aR.o.trans (hb.mono aR.o.size));have HO:=un (hO.base (Zb _));generalize hq:pz.length=q at *
 have c3:q<=9223372036854775807:=by have h1:=HO.o.form.2.1;have h2:=HO.o.form.2.2.1;unfold maxLen at h2;omega
 have HQ:=un hq;clear hO hb hq q3 L M T U c P V Y k2 Q Z aa k3 R ab ac;go_wp2_with fail
 go_loopw [8] (λiv wy=>∃i:Nat,iv=.int .i64 i/\i<=q/\(∀z∈pz.take i,¬y1j j (cf cs) (el z)<0)/\Below bX bX wy)
  (λiv _=>q-(intOf iv).toNat)
 case atStart=>exact⟨0,rfl,Zb _,(λz h=>by cases h),Zj _ _⟩
 rename World=>wy
 obtain⟨i,rfl,hi,E,a⟩:=hrel;refine μ3 E a (af.o.trans (a.mono af.o.size)) λcn bu bg=>?_;have y0:=zab bg.o q0;by_cases cu:i<q
 ·obtain⟨z,aj⟩:∃z,pz[i]? = some z:=⟨pz[i]'(by rw[HQ.o];exact cu),Ze _⟩
  have a5:=un (Zz aj);have bk:=un (HO.o.below a);obtain⟨bO,rfl,_,_⟩:=bk.o.has ω;obtain⟨aZ,cZ,_,y1,a9⟩:=bk.o.at_ aj;rw[b7.o z a5.o]at y1 a9;refine μ4 (y4F aC j cC cs aZ cZ z wy.drew ((b5.o.below bg.o).drew) a9.drew b3.o (b6.o z a5.o) ω) (show pz.take (i+1)=pz.take i++[z]by rw[Xb,aj];rfl) (zeh (q:=y1j j (cf cs) (el z))) (fun(h:y1j j (cf cs) (el z)<0)=>show fb=true from by rw[HW.o];exact List.any_eq_true.2 ⟨z,a5.o,ZT h⟩) λb4 an bj cm=>?_;have cd:=un (fun(h:¬y1j j (cf cs) (el z)<0)=>show ∀z∈pz.take (i+1),¬y1j j (cf cs) (el z)<0 from λx hx=>by rw[an.o]at hx;rcases ZU.1 hx with h1 | h1;exact cn.o x h1;rw[XE.1 h1];exact h);generalize y1j j (cf cs) (el z)=cq at *
  have cY:(i:Int)<(q:Int):=ω;have cV:(0:Int)<=(i:Int):=Zf _;have cU:=fun(W:World)=>y6m W cq.num (cq.den:Int)
  clear E a a9 aj;go_upto_region 18 with fail
  have c9:=zaa y0;have da:=zaa y1;refine wp_region_noPanic ?_;refine wp_region_held_drew (S:=λw'=>χ w' w 2 (aC,j,cC)/\χ w' bO i (aZ,j,cZ)) ξ kp λhHeld=>?_;refine zaw [0,1,2,3,4,5] ?_;repeat refine tkH (hS:=hHeld) (h:=?_)
  refine zao ?_;refine wpAnyH_ready (rs:=[6]) ξ σ ?_;refine AllReadyH.cons rfl (λK b=>?_) AllReadyH.nil;go_simp;(go_at_call 43;(with_reducible refine b4.o.mono ?_);rintro e c7 ⟨rfl,hb⟩;have aS:=un (It.bdrew0' hb);have u0:=zab aS.o y0;have u1:=zab aS.o y1;clear hb);(try go_wp2_with fail);refine b.o _ _ kp λhHeld=>?_;clear b K;try simp only[Act.put,pu1,pu2,pu3,pu4,pu5,pu6]
  refine zaw [7,8] ?_;repeat refine tkH (hS:=hHeld) (h:=?_)
  refine zao ?_;refine wpAnyH_done ξ ?_ _;refine NoPanic.normal ?_;have au:=un (bu.o.trans (aS.o.mono bu.o.size));by_cases bx:cq.num<0
  ·have HY:=un (cm.o (bj.o.1 bx));go_wp2;go_ret
   exact⟨by rw[HY.o];rfl,BB.o.trans ((af.o.trans (au.o.mono af.o.size)).mono BB.o.size)⟩
  have cc:=un (cd.o λh=>bx (bj.o.2 h));go_wp2;go_roundw
  case rel=>exact⟨i+1,by go_num,ω,cc.o,au.o⟩
  case measure=>simp[intOf];omega
 obtain rfl:i=q:=ω;have HY:=un (show fb=false by rw[HW.o,VA];intro z aj;have h:=E z (by rw[ZZ (Nat.le_of_eq HQ.o)];exact aj);simpa using h);have au:=un (af.o.trans (a.mono af.o.size));clear E a;go_wp2;go_ret;exact⟨by rw[HY.o];rfl,BB.o.trans (au.o.mono BB.o.size)⟩
end Zr
theorem y2q{e t:TypeId}{b:Nat}{n:Nat}{xs:List Value}(h:w.ownsRow H e b v n xs)(hk:TKeep t w w')(d:e≠t):w'.ownsRow H e b v n xs :=
 zc9 h λk a=>hk k (h.lt k a).2 λcs c=>za6 h c d a
structure Apz (w:World) (H:Nat) (ls:List Value) (xss:List (List Int)):Prop where
  len:ls.length=xss.length
  each:∀(k:Nat) (s:Value) (r:List Int),ls[k]? = some s->xss[k]? = some r->IntsZ w H s r
  ap:zbG ls
namespace Apz
variable {w w':World} {H:Nat} {ls:List Value} {xss:List (List Int)}
theorem below(h:Apz w H ls xss)(c:Below w w w'):Apz w' H ls xss:=⟨h.len,λk s r a b=>(h.each k s r a b).below c,h.ap⟩
theorem tk{t:TypeId}(h:Apz w H ls xss)(hk:TKeep t w w')(h1:3≠t):Apz w' H ls xss:=⟨h.len,λk s r a b=>(h.each k s r a b).tk hk h1,h.ap⟩
theorem get(h:Apz w H ls xss)(a:ls[k]? = some s):∃r,xss[k]? = some r/\IntsZ w H s r:=by
 have hk:=(ZF.1 a).1;obtain⟨r,hr⟩:∃r,xss[k]? = some r:=⟨xss[k]'(by rw[<-h.len];exact hk),Ze _⟩
 exact⟨r,hr,h.each k s r a hr⟩
theorem push(h:Apz w H ls xss){s:Value}{r:List Int}(m:IntsZ w H s r)(f:∀(g:Nat) (b:Value),s.ownBlock=some g->b∈ls->b.ownBlock≠some g):Apz w H (ls++[s]) (xss++[r]):=by refine⟨by simp[h.len],λk q y a c=>?_,h.ap.push f⟩;by_cases e:k<ls.length;rw[Z1 e]at a;rw[Z1 (by rw[<-h.len];exact e)]at c;exact h.each k q y a c;rw[ZJ ω]at a;rw[ZJ (by rw[<-h.len];omega),<-h.len]at c;grind
theorem put(h:Apz w H ls xss){i:Nat}{c:Value}(hi:ls[i]? = some v)(p:IntsZ w' H c xs)(hf:∀j,j<w.heap.size->v.ownBlock≠some j->w'.heap[j]? = w.heap[j]?)(o:c.ownBlock=v.ownBlock\/c.ownBlock=some w.heap.size):Apz w' H (ls.set i c) (xss.set i xs):=by
 refine⟨by rw[ZQ,ZQ,h.len],λk s r a b=>?_,h.ap.set λg j b hg hj d f=>?_⟩;rw[XA]at a b;by_cases e:i=k;rw[if_pos e]at a b;have hk:=(ZF.1 hi).1;rw[if_pos hk]at a;rw[if_pos (by rw[<-h.len];exact hk)]at b;grind;rw[if_neg e]at a b;have m:=h.each k s r a b;exact m.keep λj hj=>hf j (m.own.lt j hj).2 λn=>e (h.ap i k v s j hi a n hj)
 obtain⟨r,_,hr⟩:=h.get d;rcases o with e | e;exact hj (h.ap i j v b g hi d (e▸hg) f).symm;rw[hg]at e;injection e with e;have:=(hr.own.lt g f).2;omega
end Apz
structure StW (W w:World) (nA nB nC:Nat) (aA:OA) (cA:Nat) (aB:OA) (cB:Nat) (aC:OA) (cC:Nat) (own:Int) (l:List Value) (A:List (List Int)) (B C:List Int):Prop where
  blk:θ w W.heap.size #[(aA,nA,cA),(aB,nB,cB),(aC,nC,cC),.int .i64 own] 73
  tab:w.ownsRow W.heap.size 41 1 (aA,nA,cA) A.length l
  ap:Apz w W.heap.size (.slice aB nB cB::.slice aC nC cC::l) (B::C::A)
  bel:Below W W w
namespace StW
variable {W w w':World} {nA nB nC:Nat} {aA:OA} {cA:Nat} {aB:OA} {cB:Nat} {aC:OA} {cC:Nat} {own:Int} {l:List Value} {A:List (List Int)} {B C:List Int}
theorem below(h:StW W w nA nB nC aA cA aB cB aC cC own l A B C)(a:Below w w w'):StW W w' nA nB nC aA cA aB cB aC cC own l A B C :=
 ⟨zad a h.blk,zc9 h.tab λk hk=>a.block k (h.tab.lt k hk).2,h.ap.below a,h.bel.trans (a.mono h.bel.size)⟩
theorem tabZ(h:StW W w nA nB nC aA cA aB cB aC cC own l A B C):TabZ w W.heap.size (aA,nA,cA) l A :=
 ⟨by have:=h.ap.len;grind,λk s r a b=>(h.ap.each (k+2) s r ψ (by simpa using b)).base (Zb _),h.tab⟩
theorem b(h:StW W w nA nB nC aA cA aB cB aC cC own l A B C):IntsZ w W (aB,nB,cB) B:=h.ap.each 0 _ _ rfl rfl
theorem c(h:StW W w nA nB nC aA cA aB cB aC cC own l A B C):IntsZ w W (aC,nC,cC) C:=h.ap.each 1 _ _ rfl rfl
theorem stA(h:StW W w nA nB nC aA cA aB cB aC cC own l A B C){c:Nat}{r:List Int}(t:TabZ w' W.heap.size (a,c,c') (l++[s]) (A++[r]))(hk:TKeep 41 w w')(n:Below W w w'){d:Nat}(q:IntsZ w d s r)(j:W.heap.size<=d)
  (m:∀(g:Nat) (b:Value),s.ownBlock=some g->b∈.slice aB nB cB::.slice aC nC cC::l->b.ownBlock≠some g):StW W (w'.setCell ⟨W,0,none⟩ (a,c,c')) c nB nC a c' aB cB aC cC own (l++[s]) (A++[r]) B C:=by
 have e:=hk.blk h.blk (show 73≠41 by decide);have f:=TKeep.set e (o:=0) (a,c,c');exact⟨zar _ e,y2q t.own f δ,((h.ap.tk hk δ).push ((q.tk hk δ).base j) m).tk f δ,(h.bel.trans n).setCell (p:=⟨W,0,none⟩) (Za _) _⟩
theorem stB(h:StW W w nA nB nC aA cA aB cB aC cC own l A B C){b:Nat}(g:IntsZ w' W (a,b,c') (B++ys))(hk:TKeep 3 w w')(e:Below W w w')(hf:∀j,j<w.heap.size->(Value.slice aB nB cB).ownBlock≠some j->w'.heap[j]? = w.heap[j]?)(f:(Value.slice a b c').ownBlock=(Value.slice aB nB cB).ownBlock\/(Value.slice a b c').ownBlock=some w.heap.size) :
  StW W (w'.setCell ⟨W,1,none⟩ (a,b,c')) nA b nC aA cA a c' aC cC own l A (B++ys) C:=by
 have c:=hk.blk h.blk (show 73≠3 by decide);have d:=TKeep.set c (o:=1) (a,b,c');exact⟨zar _ c,y2q (y2q h.tab hk δ) d δ,(h.ap.put (i:=0) rfl g hf f).tk d δ,(h.bel.trans e).setCell (p:=⟨W,1,none⟩) (Za _) _⟩
theorem stC(h:StW W w nA nB nC aA cA aB cB aC cC own l A B C){b:Nat}(g:IntsZ w' W (a,b,c') (C++ys))(hk:TKeep 3 w w')(e:Below W w w')(hf:∀j,j<w.heap.size->(Value.slice aC nC cC).ownBlock≠some j->w'.heap[j]? = w.heap[j]?)(f:(Value.slice a b c').ownBlock=(Value.slice aC nC cC).ownBlock\/(Value.slice a b c').ownBlock=some w.heap.size) :
  StW W (w'.setCell ⟨W,2,none⟩ (a,b,c')) nA nB b aA cA aB cB a c' own l A B (C++ys):=by
 have c:=hk.blk h.blk (show 73≠3 by decide);have d:=TKeep.set c (o:=2) (a,b,c');exact⟨zar _ c,y2q (y2q h.tab hk δ) d δ,(h.ap.put (i:=1) rfl g hf f).tk d δ,(h.bel.trans e).setCell (p:=⟨W,2,none⟩) (Za _) _⟩
theorem keepTab(h:StW W w nA nB nC (some ⟨bA,0,none⟩) cA aB cB aC cC own l A B C)(hk:TKeep 3 w w'){o:Nat}(hc:χ w bA o v):χ w' bA o v:=by
 have e:=hk bA (h.tab.lt bA rfl).2 λcs e=>za6 h.tab e δ rfl
 rw[<-hc];unfold World.cell?;simp only[e]
theorem stR(h:StW W w nA nB nC (some ⟨bA,0,none⟩) cA aB cB aC cC own l A B C)(s:l[k]? = some v){b:Nat}(c:IntsZ w' W (a,b,c') xs)(hk:TKeep 3 w w')(f:Below W w w')(hf:∀j,j<w.heap.size->v.ownBlock≠some j->w'.heap[j]? = w.heap[j]?)(u:(Value.slice a b c').ownBlock=v.ownBlock\/(Value.slice a b c').ownBlock=some w.heap.size) :
  StW W (w'.setCell ⟨bA,k,none⟩ (a,b,c')) nA nB nC (some ⟨bA,0,none⟩) cA aB cB aC cC own (l.set k (a,b,c')) (A.set k xs) B C:=by
 have t:nA=A.length:=h.tabZ.nlen;subst t;have d:=y2q h.tab hk δ;have m:W.heap.size<=bA:=(d.lt bA rfl).1;obtain⟨cs,n⟩:∃cs,θ w' bA cs 41:=by
  rcases d.2 with ⟨c,_⟩ | ⟨g,cap,cur,c,_,q,_⟩
  cases c;grind
 have e:=TKeep.set n (o:=k) (a,b,c');have y:=(d.stored k (a,b,c')).1;refine⟨e.blk (hk.blk h.blk δ) δ,by rw[ZQ];exact y,?_,(h.bel.trans f).setCell (p:=⟨bA,k,none⟩) m _⟩;have x:=(h.ap.put (i:=k+2) ψ c hf u).tk e δ;exact x
theorem out4(h:StW W w nA nB nC aA cA aB cB aC cC own l A B C){b:Nat}(n:b<W.heap.size)(a d f g:Value){w':World}(hw:((((w.setCell ⟨b,0,none⟩ a).setCell ⟨b,1,none⟩ d).setCell ⟨b,2,none⟩ f).setCell ⟨b,3,none⟩ g)=w') :
  TabZ w' W.heap.size (aA,nA,cA) l A/\IntsZ w' W (aB,nB,cB) B/\IntsZ w' W (aC,nC,cC) C:=by
 have hk:∀k,W.heap.size<=k->w'.heap[k]? = w.heap[k]?:=λk hk=>by have e:k≠b:=ω;rw[<-hw,ZE _ _ _ _ (by exact e),ZE _ _ _ _ (by exact e),ZE _ _ _ _ (by exact e),ZE _ _ _ _ (by exact e)]
 have hi:∀ {v:Value} {r:List Int},IntsZ w W v r->IntsZ w' W v r:=λq=>q.keep λk e=>hk k (q.own.lt k e).1
 exact⟨⟨by have:=h.ap.len;grind,λk s r j m=>(hi (h.ap.each (k+2) s r ψ (by simpa using m))).base (Zb _),zc9 h.tab λk e=>hk k (h.tab.lt k e).1⟩,hi h.b,hi h.c⟩
end StW
open Dz (ez)
def y2O (rows:List ZRow) (k r:Nat):List (List Int):=(List.range rows.length).map λi=>(rows.getD i default).coef++y1P rows i (if i<r then k+1 else k)
section
variable {rows:List ZRow} {k r i:Nat}
theorem y1S:(y2O rows k r).length=rows.length:=by simp[y2O]
theorem y1L(h:i<rows.length):(y2O rows k r)[i]? = some ((rows.getD i default).coef++y1P rows i (if i<r then k+1 else k)):=by unfold y2O;rw[Z2,XC h];rfl
theorem y5z(h:r<rows.length):(y2O rows k r).set r ((rows.getD r default).coef++y1P rows r (k+1))=y2O rows k (r+1):=by apply Xc;intro i;rw[XA];by_cases e:r=i;subst e;rw[if_pos rfl,if_pos (by rw[y1S];exact h),y1L h,if_pos ω];rw[if_neg e];rcases ZI i rows.length with q | q;rw[y1L q,y1L q];by_cases a:i<r;rw[if_pos a,if_pos ω];rw[if_neg a,if_neg ω];rw[Xe (by rw[y1S];exact q),Xe (by rw[y1S];exact q)]
theorem y4P:y2O rows k rows.length=y2O rows (k+1) 0:=by apply Xc;intro i;rcases ZI i rows.length with q | q;rw[y1L q,y1L q,if_pos q,if_neg ω];rw[Xe (by rw[y1S];exact q),Xe (by rw[y1S];exact q)]
theorem y4Q(h:(rows.getD k default).kind=3):y2O rows (k+1) 0=y2O rows k 0:=by
 apply Xc;intro i;rcases ZI i rows.length with q | q;rw[y1L q,y1L q,if_neg ω,if_neg ω];show some (_++(y1P rows i k++if (rows.getD k default).kind=3 then []else _))=_
 rw[if_pos h,XS];rw[Xe (by rw[y1S];exact q),Xe (by rw[y1S];exact q)]
theorem y38:y2O rows 0 0=rows.map λp=>p.coef:=by
 apply Xc;intro i;rcases ZI i rows.length with q | q;rw[y1L q,if_neg ω,Z2,zaO (L:=rows) (d:=default) q];show some (_++[])=_
 rw[XS];rfl;rw[Xe (by rw[y1S];exact q),Xe (by rw[ZK];exact q)]
theorem y5y:y2O rows rows.length 0=y2C rows:=by unfold y2O y2C;exact YK λi _=>by rw[if_neg ω]
theorem y36(h:(rows.getD k default).kind≠3):y1P rows r (k+1)=y1P rows r k++[if r=k then 3-2*(rows.getD k default).kind else 0]:=by
 conv=>lhs;unfold y1P
 rw[if_neg h]
theorem y4D(hk:k<rows.length)(h:(rows.getD k default).kind≠3):cnt (toP rows) (k+1)=cnt (toP rows) k+1:=by
 show cnt (toP rows) k+(if ((toP rows).getD k default).kind=3 then 0 else 1)=_
 rw[y1T hk,if_neg (show ¬(toR (rows.getD k default)).kind=3 from h)]
theorem y4E(hk:k<rows.length)(h:(rows.getD k default).kind=3):cnt (toP rows) (k+1)=cnt (toP rows) k:=by
 show cnt (toP rows) k+(if ((toP rows).getD k default).kind=3 then 0 else 1)=_
 rw[y1T hk,if_pos (show(toR (rows.getD k default)).kind=3 from h)];rfl
theorem y3U:cnt (toP rows) k<=k:=by
 induction k with
 | zero=>exact Za _
 | succ k ih =>
  show cnt (toP rows) k+(if ((toP rows).getD k default).kind=3 then 0 else 1)<=_
  split<;>omega
end
def y3c (w:World) (nC:Nat) (cost:List Int) (rows:List ZRow) (e:Ending) (w':World):Prop:=∃(aA:OA) (cA:Nat) (lA:List Value) (aB:OA) (cB:Nat) (aC:OA) (cC:Nat),e=.returned (.agg #[(aA,rows.length,cA),(aB,rows.length,cB),(aC,nC+cnt (toP rows) rows.length,cC),(nC:Int)]) /\
  TabZ w' w.heap.size (aA,rows.length,cA) lA (y2C rows)/\IntsZ w' w (aB,rows.length,cB) (y29 rows)/\IntsZ w' w (aC,nC+cnt (toP rows) rows.length,cC) (y3a cost rows)/\Below w w w'
namespace Zr
theorem y6u(aC:OA)(nC cC:Nat)(cost:List Int)(aR:OA)(m cR:Nat)(lR:List Value)(rows:List ZRow)(w:World)(hC:IntsZ w 0 (aC,nC,cC) cost)(hR:ZRows w 0 (aR,m,cR) lR rows)(ca:nC<=10)(hm:m<=10)(h1:∀p∈rows,p.coef.length<=10)(ad:∀p∈rows,p.kind=1\/p.kind=2\/p.kind=3) :
  Calls prog 21 #[.agg #[(aC,nC,cC),(aR,m,cR)]] w (y3c w nC cost rows):=by
 refine μ4 hC.len hR.nlen (λi (h:i<rows.length)=>show(rows.getD i default).coef.length<=10 from h1 _ (Zz (zaO h))) (λi (h:i<rows.length)=>ad _ (Zz (zaO (d:=default) h))) λa8 o H1 bo=>?_;clear h1 ad;obtain⟨W,hW⟩:∃W,((w.alloc (.cells #[(aC,nC,cC),(aR,m,cR)] 44)).alloc (.cells #[(),(),(),.int .i64 0] 73))=W:=⟨_,rfl⟩
 refine μ6 (show θ W w.heap.size #[(aC,nC,cC),(aR,m,cR)] 44by rw[<-hW];exact zak (zam σ)) (show θ W (w.heap.size+1) #[(),(),(),.int .i64 0] 73by rw[<-hW];exact zam σ) (show Below w w W by rw[<-hW];exact(zae w _).alloc σ _) (show w.heap.size+2<=W.heap.size by rw[<-hW];simp) (show IntsZ W 0 (aC,nC,cC) cost by rw[<-hW];exact((hC).alloc _).alloc _) (show ZRows W 0 (aR,m,cR) lR rows by rw[<-hW];exact((hR).alloc _).alloc _) λaK aL BB HZ HC HR=>?_;obtain⟨cr,cy,aq,cm⟩:=bc2 aK.o;obtain⟨cM,cK,c0,cH,cI,cP,cS,cD,cT,cW,c5,c2,df,dd,db,c9⟩:=bf4 aL.o;clear hC hR;go_enter func21,ntmps21;go_upto_region 2 with fail
 clear hW;have aa:=un (show StW W (W.alloc (.cells #[(),(),(),(nC:Int)] 73)) 0 0 0 none 0 none 0 none 0 (nC:Int) [] [] [] []from⟨zal _ _ _,Xo _ _ _ _,⟨rfl,λk s r h1 h2=>by rcases k with _ | _ | k<;>simp at h1 h2<;>subst h1 h2<;>exact IntsZ.nil _ _,λi j a b g h1 _ h3 _=>by rcases i with _ | _ | i<;>simp at h1<;>subst h1<;>cases h3⟩,zae W _⟩);have aQ:=zae W (.cells #[(),(),(),(nC:Int)] 73);refine μ3 (zad aQ aK.o) (zad aQ aL.o) (HC.o.below aQ) λbT bO b2=>?_;obtain⟨cp,cv,cq,cw⟩:=bc2 bT.o;obtain⟨cL,cu,cX,cF,cN,cl,cU,cJ,cE,cQ,c1,cV,dg,de,dc,da⟩:=bf4 bO.o;generalize W.alloc (.cells #[(),(),(),(nC:Int)] 73)=wa at *
 obtain⟨E,F,M,O,G,I,P,Q,k2,J,R,T,k3,L,U,V⟩:=bf4 aa.o.blk;go_upto_region 3 with (at_builtin;go_loud (refine wpl rfl (λK D=>y1n (N:=nC) _ _ rfl rfl aa.o.c rfl (by have h:=b2.o.news;rw[<-a8.o]at h;exact h) (Z6 _) ω aa.o.bel.size K D) ?_;rintro _ w6 ⟨X6,c6,rfl,hI6,hk6,hb6,hf6,ho6⟩;have av:=un (aa.o.stC hI6 hk6 hb6 hf6 ho6);have v0:=zac (hk6.blk aa.o.blk δ) 2;have v1:=zag (hk6.blk aa.o.blk δ) 2;clear hI6 hk6 hb6 hf6 ho6))
 clear E F M O G I P Q k2 J R T k3 L U V v0 v1;generalize w6.setCell ⟨W.heap.size,2,none⟩ (X6,nC,c6)=w7 at *
 rw[XV]at av;have b3:=un av.o.bel;clear aa;go_wp2_with fail
 go_loopw [4] (λkv wr=>∃(k:Nat) (aA:OA) (cA:Nat) (aB:OA) (cB:Nat) (l:List Value),kv=.int .i64 k/\k<=m/\StW W wr k k nC aA cA aB cB X6 c6 (nC:Int) l ((rows.take k).map λp=>p.coef) ((rows.take k).map λp=>p.rhs) cost)
  (λkv _=>m-(intOf kv).toNat)
 case atStart=>exact⟨0,none,0,none,0,[],rfl,Zb _,av.o⟩
 rename World=>wr
 obtain⟨k,aA,cA,aB,cB,l,rfl,hk,hS⟩:=hrel;have x:=un hS;have af:=un hS.bel;clear hS av;have y0:=zab af.o aq;by_cases be:k<m
 ·obtain⟨p,X⟩:∃p,rows[k]? = some p:=⟨rows[k]'(by rw[<-o.o];exact be),Ze _⟩
  have Y:=un (show rows.getD k default=p by rw[Zg,X];rfl);have cb:p.coef.length<=10:=by have h:=H1.o k (by rw[<-o.o];exact be);rw[Y.o]at h;exact h
  have bt:=un (map_take (f:=λp:ZRow=>p.coef) X);have bu:=un (map_take (f:=λp:ZRow=>p.rhs) X);obtain⟨bR,rfl,_,_⟩:=HR.o.has ω;obtain⟨aX,cx,_,z0,z1,z2,bd⟩:=HR.o.at_ X;have bn:=un (bd.below af.o);have y1:=zab af.o z0;have y3:=zab af.o z2;have b7:(k:Int)<(m:Int):=ω;have b5:(0:Int)<=(k:Int):=Zf _;clear bd X;have bj:=un (fun(g:Nat) (b:Value) (hg:wr.heap.size<=g) (hb:b∈Value.slice aB k cB::Value.slice X6 nC c6::l)=>show b.ownBlock≠some g from λe=>by obtain⟨i,hi⟩:=Xv.1 hb;obtain⟨r,_,hr⟩:=x.o.ap.get hi;have:=(hr.own.lt g e).2;omega);go_upto_region 8 with (at_builtin;go_loud (refine wpl rfl (λK D=>y1n (N:=p.coef.length) _ _ rfl rfl (IntsZ.nil _ wr.heap.size) rfl bn.o.news (Z6 _) ω (Za _) K D) ?_;rintro _ v6 ⟨Y6,d6,rfl,hI6,hk6,hb6,hf6,ho6⟩;have aH:=un hI6;have y:=un (x.o.below hb6);obtain⟨E,F,M,O,G,I,P,Q,k2,J,R,T,k3,L,U,V⟩:=bf4 y.o.blk;clear hI6 hk6 hb6 hf6 ho6))
  clear E F M O G I P Q k2 J R T k3 L U V;obtain⟨E,F,M,O,G,I,P,Q,k2,J,R,T,k3,L,U,V⟩:=bf4 y.o.blk;go_upto_region 9 with (at_builtin;go_loud (refine wpl rfl (λK D=>y1Q (N:=k+1) _ _ rfl rfl (y.o.tabZ.alloc _) rfl (zal _ _ _) ((aH.o.base (Zb _)).alloc _) (by rw[ZK,ZG,<-o.o];omega) ω (by have:=y.o.bel.size;simp;omega) K D) ?_;rintro _ v7 ⟨A7,e7,rfl,hT7,hk7,hb7,hf7,ho7⟩;have Z:=un ((y.o.below (zae v6 _)).stA hT7 hk7 hb7 (aH.o.alloc _) af.o.size λg b hg hb=>bj.o g b (aH.o.own.lt g hg).1 hb);have v0:=zac (hk7.blk (y.o.below (zae v6 _)).blk δ) 0;have v1:=zag (hk7.blk (y.o.below (zae v6 _)).blk δ) 0;clear hT7 hk7 hb7 hf7 ho7))
  rw[XV,<-bt.o]at Z;clear E F M O G I P Q k2 J R T k3 L U V v0 v1;generalize v7.setCell ⟨W.heap.size,0,none⟩ (.slice A7 (k+1) e7)=v8 at *
  have a5:=un Z.o.bel;have y3:=zab a5.o aq;have y4:=zab a5.o z2;obtain⟨E,F,M,O,G,I,P,Q,k2,J,R,T,k3,L,U,V⟩:=bf4 Z.o.blk;have cj:=zaa y3;have ck:=zaa y4;refine zaS (S:=λw'=>χ w' W.heap.size 1 (.slice aB k cB)/\χ w' w 1 (bR,m,cR)/\χ w' bR (k*3+2) (.int .i64 p.rhs)) [11] (h:=λhHeld=>?_);refine zaw [0,1,2,3,4,5,6,7] ?_;repeat refine tkL (hS:=hHeld) (h:=?_)
  refine zao ?_;refine zaB 8 (h:=λK u=>?_);go_simp;refine shutOn u λhHeld=>?_;clear u K;refine zaB 9 (h:=λK u=>?_);(refine wps rfl (λK D=>y1n (N:=k+1) _ _ rfl rfl (Z.o.b.drew.alloc _) rfl (ys:=[p.rhs]) (y19 (zal _ _ _) rfl) (by rw[ZK,ZG,<-o.o];omega) ω (by have:=Z.o.bel.size;simp;omega) K D) ?_;rintro _ v9 ⟨B9,f9,rfl,hI9,hk9,hb9,hf9,ho9⟩;have al:=un ((Z.o.below (bdrew (zae v8 _))).stB hI9 hk9 hb9 hf9 ho9);have bb:=un (hk9.blk (Z.o.below (bdrew (zae v8 _))).blk δ);have w0:χ v9 W.heap.size 1 (.slice aB k cB):=zac bb.o 1;have w1:=zag bb.o 1;have a6:=un ((Z.o.below (bdrew (zae v8 _))).bel.trans hb9);have w2:=zab a6.o aq;have w3:=zab a6.o z2;clear hI9 hk9 hb9 hf9 ho9);refine shutOn u λhHeld=>?_;clear u K;refine zaw [10] ?_;repeat refine tkL (hS:=hHeld) (h:=?_)
  refine zao ?_;refine zay 11 (h:=λK u=>?_);go_simp;refine shutOff u ?_;clear u K;refine zaM (h:=?_);rw[<-bu.o]at al;go_wp2_with fail
  go_roundw
  case rel=>exact⟨k+1,A7,e7,B9,f9,_,by go_num,ω,al.o⟩
  case measure=>simp[intOf];omega
 obtain rfl:k=m:=ω;have ba:=un (show StW W wr k k nC aA cA aB cB X6 c6 (nC:Int) l (y2O rows 0 0) (y29 rows) cost by have h:=x.o;rw[ZZ (Nat.le_of_eq o.o.symm)]at h;rw[y38];exact h);clear x;go_wp2_with fail
 go_loopw [6] (λtv wt=>∃(t n:Nat) (aA:OA) (cA:Nat) (aC:OA) (cC:Nat) (l:List Value),tv=.int .i64 t/\t<=k/\n=nC+cnt (toP rows) t/\StW W wt k k n aA cA aB cB aC cC (nC:Int) l (y2O rows t 0) (y29 rows) (cost++List.replicate (cnt (toP rows) t) 0))
  (λtv _=>k-(intOf tv).toNat)
 case atStart=>exact⟨0,nC,aA,cA,X6,c6,l,rfl,Zb _,rfl,by show StW _ _ _ _ _ _ _ _ _ _ _ _ _ _ _ (_++[]);rw[XS];exact ba.o⟩
 rename World=>wt
 obtain⟨t,n,aA,cA,ax,ay,l,rfl,ht,hn,hS⟩:=hrel;refine μ3 hn hS hS.bel λHN x aj=>?_;have y0:=zab aj.o aq;have b9:n<=20:=by rw[hn];have:=y3U (rows:=rows) (k:=t);omega
 clear hS ba hn af;by_cases az:t<k
 ·obtain⟨p,X⟩:∃p,rows[t]? = some p:=⟨rows[t]'(by rw[<-o.o];exact az),Ze _⟩
  have Y:=un (show rows.getD t default=p by rw[Zg,X];rfl);have bf:p.kind=1\/p.kind=2\/p.kind=3:=by have h:=bo.o t (by rw[<-o.o];exact az);rw[Y.o]at h;exact h
  have bs:=un bf;obtain⟨bR,rfl,_,_⟩:=HR.o.has ω;obtain⟨aX,cx,_,_,z1,_,_⟩:=HR.o.at_ X;have y1:=zab aj.o z1;have cg:(t:Int)<(k:Int):=ω;have cf:(0:Int)<=(t:Int):=Zf _;clear X bf;by_cases ac:p.kind=3
  ·have ak:=un (y4E (rows:=rows) (k:=t) (by rw[<-o.o];exact az) (by rw[Y.o];exact ac));have bq:=un (y4Q (rows:=rows) (k:=t) (by rw[Y.o];exact ac));rw[ac]at y1;go_wp2;go_roundw
   case rel=>exact⟨t+1,n,aA,cA,ax,ay,l,by go_num,ω,by rw[ak.o];exact HN.o,by rw[ak.o,bq.o];exact x.o⟩
   case measure=>simp[intOf];omega
  refine μ3 (y4D (rows:=rows) (k:=t) (by rw[<-o.o];exact az) (by rw[Y.o];exact ac)) (λr=>y36 (rows:=rows) (k:=t) (r:=r) (by rw[Y.o];exact ac)) (show(cost++List.replicate (cnt (toP rows) t) 0).length=n by rw[ZD,ZO,<-a8.o];exact HN.o.symm) λak bp bl=>?_;have bm:=un (show cost++List.replicate (cnt (toP rows) (t+1)) 0=cost++List.replicate (cnt (toP rows) t) 0++[0]by rw[ak.o,Yg,XT]);obtain⟨kd,ad⟩:∃kd,p.kind=kd:=⟨_,rfl⟩
  have aI:=un ad;rw[ad]at y1;have b6:(kd == 3)=false:=by rw[<-ad];simpa using ac
  have b8:1<=kd/\kd<=2:=by have:=bs.o;omega
  clear ac ad;obtain⟨E,F,M,O,G,I,P,Q,k2,J,R,T,k3,L,U,V⟩:=bf4 x.o.blk;go_upto_region 15 with (at_builtin;go_loud (refine wpl rfl (λK D=>y1n (N:=n+1) _ _ rfl rfl (x.o.c.alloc _) rfl (ys:=[0]) (y19 (zal _ _ _) rfl) (by rw[bl.o]) ω (by have:=x.o.bel.size;simp;omega) K D) ?_;rintro _ v6 ⟨C6,e6,rfl,hI6,hk6,hb6,hf6,ho6⟩;have y:=un ((x.o.below (zae wt _)).stC hI6 hk6 hb6 hf6 ho6);have v0:=zac (hk6.blk (x.o.below (zae wt _)).blk δ) 2;have v1:=zag (hk6.blk (x.o.below (zae wt _)).blk δ) 2;clear hI6 hk6 hb6 hf6 ho6))
  rw[<-bm.o]at y;clear E F M O G I P Q k2 J R T k3 L U V v0 v1;generalize v6.setCell ⟨W.heap.size,2,none⟩ (C6,n+1,e6)=v7 at *
  go_wp2_with fail
  go_loopw [7] (λrv wx=>∃(r:Nat) (l:List Value),rv=.int .i64 r/\r<=k/\StW W wx k k (n+1) aA cA aB cB C6 e6 (nC:Int) l (y2O rows t r) (y29 rows) (cost++List.replicate (cnt (toP rows) (t+1)) 0))
   (λrv _=>k-(intOf rv).toNat)
  case atStart=>exact⟨0,l,rfl,Zb _,y.o⟩
  rename World=>wx
  obtain⟨r,l,rfl,hr,hS⟩:=hrel;have z:=un hS;have a7:=un hS.bel;have y0:=zab a7.o aq;have y1:=zab a7.o z1;rw[aI.o]at y1;clear hS y;obtain⟨E,F,M,O,G,I,P,Q,k2,J,R,T,k3,L,U,V⟩:=bf4 z.o.blk;by_cases aT:r<k
  ·have aD:=y1L (rows:=rows) (k:=t) (r:=r) (i:=r) (by rw[<-o.o];exact aT);rw[if_neg (XW r)]at aD;have aJ:=un (y5z (rows:=rows) (k:=t) (r:=r) (by rw[<-o.o];exact aT));rw[bp.o,<-XT,Y.o]at aJ;obtain⟨bA,rfl,_,_⟩:=z.o.tabZ.has ω;obtain⟨aY,cY,aS,u0,bF⟩:=z.o.tabZ.at_ aD
   have bG:((rows.getD r default).coef++y1P rows r t).length<=20:=by rw[ZD,y1R rows r t (by rw[<-o.o];omega)];have:=H1.o r (by rw[<-o.o];exact aT);have:=y3U (rows:=rows) (k:=t);omega
   have a4:=un (z.o.ap.each (r+2) _ _ aS aD);have a9:=un aS;generalize (rows.getD r default).coef++y1P rows r t=row at *
   obtain⟨nr,aV⟩:∃nr,row.length=nr:=⟨_,rfl⟩
   rw[aV]at u0 bG a4 a9;have br:=un aV;have cd:(r:Int)<(k:Int):=ω;have cc:(0:Int)<=(r:Int):=Zf _;obtain⟨xv,aF⟩:∃xv:Int,xv=if r=t then 3-2*p.kind else 0:=⟨_,rfl⟩
   rw[aI.o]at aF;have bw:=un aF;rw[show(if r=t then 3-2*p.kind else 0)=xv by rw[aI.o];exact aF.symm]at aJ;clear aD aS bF aV aF;go_upto_if 79 with fail
   go_cut[8] (λnv wz=>nv=.int .i64 xv/\wz=wx)
   case first =>
    have hx:=bw.o;by_cases e:r=t
    ·subst e;rw[if_pos rfl]at hx;subst hx;go_wp2;go_meet
     case rel=>exact⟨by go_num,rfl⟩
    rw[if_neg e]at hx;subst hx;have e2:((r:Int) == (t:Int))=false:=by simpa using λq=>e ω
    go_wp2;go_meet
    case rel=>exact⟨rfl,rfl⟩
   rename World=>wz
   obtain⟨rfl,rfl⟩:=hcut;go_upto_region 21 with fail
   have ch:=zaa u0;have bv:=un (fun(w9:World) (hk:TKeep 3 (wz.alloc (.cells #[.int .i64 xv] 3)).drew w9)=>show w9.frozen? ⟨bA,r,none⟩=false from by have h:=y2q (z.o.below (bdrew (zae wz (.cells #[.int .i64 xv] 3)))).tab hk δ;rw[<-z.o.tabZ.nlen]at h;exact h.frozenAt r);refine zaS (S:=λw'=>χ w' W.heap.size 0 (.slice (some ⟨bA,0,none⟩) k cA)/\χ w' bA r (.slice aY nr cY)) [12] (h:=λhHeld=>?_);refine zaw [0,1,2,3,4,5,6,7,8] ?_;repeat refine tkL (hS:=hHeld) (h:=?_)
   refine zao ?_;refine zaB 9 (h:=λK u=>?_);go_simp;refine shutOn u λhHeld=>?_;clear u K;refine zaB 10 (h:=λK u=>?_);(refine wps rfl (λK D=>y1n (N:=nr+1) _ _ rfl rfl (a4.o.drew.alloc _) rfl (ys:=[xv]) (y19 (zal _ _ _) rfl) (by rw[br.o]) ω (by have:=z.o.bel.size;simp;omega) K D) ?_;rintro _ w9 ⟨Y9,e9,rfl,hI9,hk9,hb9,hf9,ho9⟩;have al:=un ((z.o.below (bdrew (zae wz _))).stR a9.o hI9 hk9 hb9 hf9 ho9);have w0:χ w9 W.heap.size 0 (.slice (some ⟨bA,0,none⟩) k cA):=zac (hk9.blk (z.o.below (bdrew (zae wz _))).blk δ) 0;have w1:=(z.o.below (bdrew (zae wz _))).keepTab hk9 (zab (bdrew (zae wz _)) u0);have w2:=bv.o w9 hk9;clear hI9 hk9 hb9 hf9 ho9);refine shutOn u λhHeld=>?_;clear u K;refine zaw [11] ?_;repeat refine tkL (hS:=hHeld) (h:=?_)
   refine zao ?_;refine zay 12 (h:=λK u=>?_);go_simp;refine shutOff u ?_;clear u K;refine zaM (h:=?_);rw[aJ.o]at al;go_wp2_with fail
   go_roundw
   case rel=>exact⟨r+1,_,by go_num,ω,al.o⟩
   case measure=>simp[intOf];omega
  obtain rfl:r=k:=ω;have aw:=un (show StW W wx r r (n+1) aA cA aB cB C6 e6 (nC:Int) l (y2O rows (t+1) 0) (y29 rows) (cost++List.replicate (cnt (toP rows) (t+1)) 0)by have h:=z.o;rw[show y2O rows t r=y2O rows (t+1) 0 by rw[o.o];exact y4P]at h;exact h);go_wp2_with fail
  go_roundw
  case rel=>exact⟨t+1,n+1,aA,cA,C6,e6,l,by go_num,ω,by rw[ak.o,HN.o];omega,aw.o⟩
  case measure=>simp[intOf];omega
 obtain rfl:t=k:=ω;have aw:=un (show StW W wt t t n aA cA aB cB ax ay (nC:Int) l (y2C rows) (y29 rows) (y3a cost rows)by have h:=x.o;rw[o.o,y5y,<-o.o]at h;unfold y3a;rw[<-o.o];exact h);obtain⟨E,F,M,O,G,I,P,Q,k2,J,R,T,k3,L,U,V⟩:=bf4 aw.o.blk;refine μ3 (zad aj.o aK.o) (zad aj.o aL.o) (BB.o.trans ((aj.o).mono BB.o.size)) λbQ bV bX=>?_;obtain⟨cs,cn,ct,co⟩:=bc2 bQ.o;obtain⟨bW,bS,cz,cO,bY,bP,cZ,cG,bZ,bU,c7,c3,b1,b0,c8,c4⟩:=bf4 bV.o;go_wp2;refine Zh (v:=.agg #[(aA,t,cA),(aB,t,cB),(ax,n,ay),(nC:Int)]) (by simp[results,results21,go_sem,bW,bS,bY,bP,bZ,bU,b1,b0]) rfl ?_;obtain⟨r1,r2,r3⟩:=aw.o.out4 (b:=w.heap.size+1) (by have:=HZ.o;omega) _ _ _ _ rfl;unfold y3c;rw[<-o.o,<-HN.o];exact⟨aA,cA,l,aB,cB,ax,ay,rfl,r1.base BB.o.size,r2.base BB.o.size,r3.base BB.o.size,bsc (bsc (bsc (bsc bX.o)))⟩
