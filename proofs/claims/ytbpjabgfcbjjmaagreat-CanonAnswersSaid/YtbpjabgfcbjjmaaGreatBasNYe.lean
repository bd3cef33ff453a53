/- Contracts and lemmas: BasN Tb3 PrM. Conditions: as each says. -/
import Derived.Test.YtbpjabgfcbjjmaaGreatLuFacYe
import Derived.Test.YtbpjabgfcbjjmaaGreatBasTYe
import Derived.Test.YtbpjabgfcbjjmaaGreatBoolsYe
set_option linter.all false
set_option maxHeartbeats 4000000
set_option maxRecDepth 100000
namespace Go.Proofs.YtbpjabgfcbjjmaaGreat
open Go.RowKit Am Tryz
attribute [local go_sem ↓] Go.wp_at_zero Go.wp_at_succ
variable {A:List (List Rat)}{zs:List Int}{cols:List Nat}{ys:List Rat}{N j k m:Nat}
def zCq (w:World) (n S:Nat) (C:List (List Rat)) (e:Ending) (w':World):Prop :=
  (∃q,CReg n C/\e=.returned (.tuple #[.pointer (some ⟨q,0,none⟩),.nilIface])/\zjE w' w.heap.size q n S C/\Below w w w') \/
  (¬CReg n C/\e=.returned (.tuple #[.pointer none,.iface 93 (.int .i64 140)])/\Below w w w')
namespace Bs
theorem new(n F:Nat)(A:OA)(l0:List Value)(C:List (List Rat))(s S:Nat)(w:World)(h:VecsL w s (A,n,F) l0 C)(G:CSq n C)(N:n<=64)(P:zhg mw n S C)(J:24*uB n S+8<=LIM) :
  Calls prog 146 #[(A,n,F)] w (zCq w n S C):=by
 refine μ6 N G P J h h.nlen λu B ad X D m=>?_;have aq:n<=9223372036854775807:=ω;have al:decide ((64:Int)<(n:Int))=false:=by simp;omega
 have am:¬((64:Int)<(n:Int)):=ω;have an:((n:Int) != (n:Int))=false:=σ;clear N G P J h;go_enter func146,ntmps146;go_wp2
 go_loopw [11] (λi wr=>∃(k:Nat) (bA:OA) (bc_:Nat) (j:List Value),i=.int .i64 k/\k<=n/\θ wr w.heap.size #[(bA,k,bc_),.pointer none,()] 246/\VecsL wr w (bA,k,bc_) j (C.take k)/\Below w w wr)
  (λi _=>n-(intOf i).toNat)
 case atStart=>exact⟨0,none,0,[],rfl,Zb _,zal _ _ _,by rw[Vf];exact VecsL.nil _ _,zae _ _⟩
 obtain⟨k,bA,bc_,j,rfl,hk,l,c,d⟩:=hrel;by_cases M:k<n
 ·obtain⟨r,hr⟩:∃r,C[k]? = some r:=⟨C[k]'(by rw[<-m.o];exact M),Ze _⟩
  have O:=zuy B.o r (Zz hr);obtain⟨b0,rfl,_,_⟩:=D.o.has ω;obtain⟨q,y,_,y0,z⟩:=(D.o.below d).at_ hr;rw[O]at y0 z;refine μ3 (z) (c) (Bel.mk d) λf R HW=>?_;have aw:=y0;have ak:χ wr w 0 (bA,k,bc_):=zac l 0;have ai:=zaa ak;refine μ3 l hr (d.size) λx Z V=>?_;clear hr O z c d l y0;have ao:(0:Int)<=(k:Int):=Zf _;have ap:(k:Int)<(n:Int):=ω;go_wp2_with fail
  refine zaS (S:=λw'=>χ w' w 0 (bA,k,bc_)) [11] (h:=λhHeld=>?_);refine zaw [0,1,2,3,4,5] ?_;repeat refine tkL (hS:=hHeld) (h:=?_)
  refine zao ?_;refine zaB 6 (h:=λK a=>?_);go_simp;(go_at_call 108;(refine(Vc.copy q n y r s _ (f.o.drew) (by have:=u.o;omega)).mono ?_);rintro e u1 ⟨A2,c2,rfl,hv2,c⟩;refine μ4 (show VecS u1 wr.heap.size (A2,n,c2) r from hv2) (R.o.below (show Below wr.heap.size wr u1 from It.bdrew0' c)) (HW.o.below (show Below wr.heap.size wr u1 from It.bdrew0' c)) (zad (show Below wr.heap.size wr u1 from It.bdrew0' c) x.o) λab T E ae=>?_;have s0:=zab c ai;clear hv2 c);(try go_wp2_with fail);refine shutOn a λhHeld=>?_;clear a K;refine zaB 7 (h:=λK a=>?_);go_simp;refine shutOn a λhHeld=>?_;clear a K;refine zaB 8 (h:=λK a=>?_);(refine zet rfl _ _ rfl rfl (T.o.alloc (.cells #[(A2,n,c2)] 30)) rfl (zal _ _ _) ((ab.o.base V.o).alloc _) (n:=k) (by rw[ZG];have:=m.o;omega) (by have:=u.o;omega) (by simp;have:=E.o.b.size;omega) ?_;intro Q c5 w5 H L I ah;refine μ3 H I (L.blk (zak ae.o) δ) λY U o=>?_;have z0:=zac o.o 0;have zf:=zag o.o 0;simp only[Xa,Z9,XH]at z0;clear H L I ah);refine shutOn a λhHeld=>?_;clear a K;refine zaw [9] ?_;repeat refine tkX (h:=?_)
  refine zao ?_;refine zaw [10] ?_;repeat refine tkL (hS:=hHeld) (h:=?_)
  refine zao ?_;refine zay 11 (h:=λK a=>?_);go_simp;refine shutOff a ?_;clear a K;refine zaM (h:=?_);go_wp2;go_roundw
  case rel=>exact⟨k+1,Q,c5,_,by go_num,ω,zar _ o.o,by rw[show C.take (k+1)=C.take k++[r]by rw[Xb,Z.o];rfl];exact Y.o.tk (TKeep.set o.o _) δ δ δ,((E.o.alloc _).b.trans U.o).setCell (p:=⟨w,0,none⟩) (Za _) _⟩
  case measure=>simp[intOf];omega
 obtain rfl:k=n:=ω;refine μ3 (show VecsL wr w (bA,k,bc_) j C by have h:=c;rw[m.o,XK]at h;rw[m.o];exact h) d l λW v x=>?_;clear hk l c d M;go_wp2_with fail
 refine(factor w.heap.size w.heap.size k S bc_ bA j C _ _ _ x.o W.o (Za _) B.o u.o ad.o X.o).mono ?_;rintro e w2 (⟨hr,rfl,hs,hb2,_⟩ | ⟨hr,rfl,hb2⟩)
 ·refine μ3 hr (hs none (λg h=>by cases h)).toS (v.o.trans hb2) λf HS t=>?_;clear hr hs hb2;go_wp2;go_ret2
  exact .inl ⟨_,f.o,rfl,HS.o,t.o⟩
 have f:=un hr;have t:=un (v.o.trans (hb2.mono v.o.size));clear hr hb2;go_wp2;go_ret2
 exact .inr ⟨f.o,rfl,t.o⟩
end Bs
theorem EtasL.base{w:World}{H c:Nat}{v:Value}{l:List (Nat × Value)}{es:List (Nat × List Rat)}(h:EtasL w H v l es)(d:c<=H):EtasL w c v l es :=
 ⟨h.len,λk s e a b=>⟨(h.each k s e a b).1,(h.each k s e a b).2.base d⟩,zbu h.own d⟩
theorem zjE.base{w:World}{H b q n S:Nat}{C:List (List Rat)}(h:zjE w H q n S C)(a:b<=H):zjE w b q n S C:=by obtain⟨cA,cc,lc,K,ql,F,D,eA,ec,le,es,h⟩:=h;exact⟨cA,cc,lc,K,ql,F,D,eA,ec,le,es,h.blk,h.cols.base a,h.low,h.lu,h.fac,h.etas.base a,h.right,h.few,Zl a h.own,Zl a h.ownK⟩
theorem zhf.base{w:World}{H b q n S:Nat}{C:List (List Rat)}{tb:Option Nat}(h:zhf w H q n S C tb)(a:b<=H):zhf w b q n S C tb:=by obtain⟨cA,cc,lc,K,ql,F,D,eA,ec,le,es,h,c⟩:=h;exact⟨cA,cc,lc,K,ql,F,D,eA,ec,le,es,⟨h.blk,h.cols.base a,h.low,h.lu,h.fac,h.etas.base a,h.right,h.few,Zl a h.own,Zl a h.ownK⟩,c⟩
theorem zzi(h:cols[k]? = some j):bc A (cols.take (k+1))=bc A (cols.take k)++[zb4 A j]:=by unfold bc;rw[Xb,h,Ye];rfl
theorem zqp(a:Basis m N A cols)(hk:cols[k]? = some j):(j:Int) ∉ (cols.map fun(x:Nat)=>(x:Int)).take k:=λh=>by
 obtain⟨i,hi⟩:=Xv.1 h;rw[Yr]at hi;split at hi
 rename_i hik;rw[Z2]at hi;cases e:cols[i]? with
 | none=>rw[e]at hi;cases hi
 | some x =>
  rw[e]at hi;injection hi with hi;have b:x=j:=by have g:((x:Nat):Int)=(j:Int):=hi;omega
  have c:=(ZF.1 e).1;have f:=(ZF.1 hk).1;have:=a.inj i k (by rw[<-a.len];exact c) (by rw[<-a.len];exact f) (by rw[getD_some (d:=0) e,getD_some (d:=0) hk,b]);omega
 cases hi
namespace Tb
theorem new(rA:OA)(rc:Nat)(lA:List Value)(bA:OA)(bc_:Nat)(kA:OA)(kc:Nat)(eA:OA)(ec m N S own:Nat)(A:List (List Rat))(b c:List Rat)(left:List Int)(tA:OA)(tc:Nat)(cols:List Nat)(L:Nat)(w:World)
  (hS:StdP w rA rc lA bA bc_ kA kc eA ec m N S A b c left) (hc:IntsS w L (tA,m,tc) cols) (a:Basis m N A cols) (ar:zor m S<=LIM) :
  Calls prog 92 #[.agg #[(rA,m,rc),(N:Int),(bA,m,bc_),(kA,N,kc),(own:Int),(eA,m,ec)],(tA,m,tc)] w λe w'=>∃(q:Nat) (a3:OA) (a4:Nat),e=.returned (.tuple #[.pointer (some ⟨q,0,none⟩),.nilIface])/\zhi w w' w.heap.size q rA rc lA bA bc_ kA kc eA ec m N S own A b c left a3 a4 cols/\Below w w w':=by
 refine μ3 a ar hS λf ai I=>?_;have bv:=hS.hm;have bo:=hS.hN;have U:=hc.form;have bp:tc<=9223372036854775807:=by have:=U.2.2.1;unfold maxLen at this;omega
 have bq:m<=tc:=U.2.1;have aK:=un (show zhg mw m S (bc A cols)from λj hj i hi=>by rw[ztZ (by rw[a.len];exact hj) (by rw[a.rect.len];exact hi)];exact hS.zen hi (a.lt j hj));clear ar a U;obtain⟨W,u⟩:∃W,(w.alloc (.cells #[(rA,m,rc),(N:Int),(bA,m,bc_),(kA,N,kc),(own:Int),(eA,m,ec)] 114))=W:=⟨_,rfl⟩
 refine μ4 (show θ W w.heap.size #[(rA,m,rc),(N:Int),(bA,m,bc_),(kA,N,kc),(own:Int),(eA,m,ec)] 114by rw[<-u];exact zam σ) (show Below w w W by rw[<-u];exact zae w _) (show StdP W rA rc lA bA bc_ kA kc eA ec m N S A b c left by rw[<-u];exact(hS).alloc _) (show IntsS W L (tA,m,tc) cols by rw[<-u];exact(hc).alloc _) λam BB HS HI=>?_;obtain⟨bK,_,bL,_,bP,_,bU,_,bW,_,bF,_⟩:=bc6 am.o;clear hS hc;go_enter func92,ntmps92;go_wp2_with fail
 clear u;refine zaS (S:=λw'=>χ w' w 0 (rA,m,rc)/\χ w' w 1 (.int .i64 (N:Int))/\χ w' w 2 (bA,m,bc_)/\χ w' w 3 (kA,N,kc)/\χ w' w 4 (.int .i64 (own:Int))/\χ w' w 5 (eA,m,ec)) [] (h:=λhHeld=>?_);refine zaw [0,1,2,3] ?_;repeat refine tkL (hS:=hHeld) (h:=?_)
 refine zao ?_;refine zaB 4 (h:=λK l=>?_);go_simp
 (go_at_call 111;(refine(Mt.rows N m rc rA _).mono ?_);rintro e u1 ⟨rfl,hb⟩;refine μ4 (zad hb am.o) (HS.o.drew.below hb) (HI.o.drew.below hb) (BB.o.trans ((It.bdrew0' hb).mono BB.o.size)) λaz a9 a5 ay=>?_;obtain⟨bI,_,bJ,_,bO,_,bV,_,bX,_,bG,_⟩:=bc6 az.o;clear hb)
 (try go_wp2_with fail)
 refine shutOn l λhHeld=>?_;clear l K;refine zaw [5,6,7,8,9,10,11] ?_;repeat refine tkL (hS:=hHeld) (h:=?_)
 refine zao ?_;refine zaB 12 (h:=λK l=>?_);go_simp
 (go_at_call 111;(refine(Mt.rows N m rc rA _).mono ?_);rintro e u2 ⟨rfl,hb⟩;refine μ4 (zad hb az.o) (a9.o.below hb) (a5.o.below hb) (ay.o.trans ((hb).mono ay.o.size)) λac aw Q C=>?_;obtain⟨bM,_,bN,_,bR,_,bS,_,bT,_,bH,_⟩:=bc6 ac.o;clear hb)
 (try go_wp2_with fail)
 refine shutOn l λhHeld=>?_;clear l K;refine zaw [13,14] ?_;repeat refine tkL (hS:=hHeld) (h:=?_)
 refine zao ?_;refine zaM (h:=?_);go_wp2
 go_loopw [6,32] (λvs i wr=>∃(k:Nat) (s:OA) (t:Nat) (z:List Value),vs=(s,k,t)/\i=.int .i64 k/\k<=m/\VecsL wr u2 (s,k,t) z (bc A (cols.take k))/\Below u2 u2 wr)
  (λ_ i _=>m-(intOf i).toNat)
 case atStart=>exact⟨0,none,0,[],rfl,rfl,Zb _,VecsL.nil _ _,Zj _ _⟩
 obtain⟨k,s,t,z,rfl,rfl,hk,y,a⟩:=hrel;have aU:=un (show w.heap.size<=u2.heap.size from C.o.size);by_cases V:k<m
 ·obtain⟨j,hj⟩:∃j,cols[k]? = some j:=⟨cols[k]'(by rw[f.o.len];exact V),Ze _⟩
  have aZ:j<N:=by have:=f.o.lt k V;rw[getD_some (d:=0) hj]at this;exact this
  obtain⟨bt,rfl,_,_⟩:=Q.o.has ω;have p0:=(Q.o.below a).at_ hj;refine μ6 (zad a ac.o) (aw.o.below a) (Q.o.below a) (y) (Bel.mk a) (C.o.trans ((a).mono C.o.size)) λD P aa J HW F=>?_;obtain⟨bg,_,bh,_⟩:=bc6 D.o;have bQ:=p0;have R:=un (And.intro hj aZ);clear y a hj p0;have br:(0:Int)<=(k:Int):=Zf _;have bs:(k:Int)<(m:Int):=ω;have bu:(k:Int)<=(tc:Int):=ω;go_wp2_with fail
  refine(Mt.col N m rc rA lA A 0 j _ P.o.rows I.o.rl R.o.2 ω ω).mono ?_;rintro e w1 ⟨B,n1,c1,rfl,hv1,hb⟩;refine μ7 (zad hb D.o) (P.o.below hb) (aa.o.below hb) (J.o.below hb) (HW.o.below hb) (hv1) (F.o.trans ((hb).mono F.o.size)) λE ab Z ae bi HU G=>?_;obtain⟨bb,_,bd,_,bj,_,bk,_,bm,_,a6,_⟩:=bc6 E.o;clear hv1 hb;have T:=un (HW.o.b.size);go_wp2_with fail
  refine(Sl.has (some ⟨bt,0,none⟩) k tc ((cols.map fun(x:Nat)=>(x:Int)).take k) (j:Int) L _ (Z.o.toZ.cut ω)).mono ?_;rintro e w2 ⟨rfl,hb⟩;refine μ6 (zad hb E.o) (ab.o.below hb) (ae.o.below hb) (bi.o.below hb) (HU.o.below hb) (G.o.trans ((hb).mono G.o.size)) λad ax aB aD ba aA=>?_;obtain⟨be,_,bf,_,aC,_,bl,_,bn,_,a7,_⟩:=bc6 ad.o;clear hb;have hd:=Z3 (zqp f.o R.o.1);rw[hd];clear hd;go_wp2_with (at_builtin;refine zbW rfl _ _ rfl rfl (aB.o.alloc (.cells #[(B,n1,c1)] 30)) rfl (zal _ _ _) ((ba.o.base T.o).alloc _) (n:=k) (by rw[zx7,ZG,f.o.len];omega) ω (by simp;have:=aD.o.b.size;omega) ?_;intro A5 c5 w5 ao a0 ap aY;have aM:=un ao;have aF:=un ((aD.o.alloc (.cells #[(B,n1,c1)] 30)).b.trans ap);clear ao a0 ap aY)
  go_roundw
  case rel=>exact⟨k+1,A5,c5,_,rfl,by go_num,ω,by rw[zzi R.o.1];exact aM.o,aF.o⟩
  case measure=>simp[intOf];omega
 obtain rfl:m=k:=ω;have aS:=un (show cols.take m=cols by rw[<-f.o.len,XK]);rw[aS.o]at y;refine μ5 (zad a ac.o) (aw.o.below a) (Q.o.below a) (y) (C.o.trans ((a).mono C.o.size)) λD P aa J F=>?_;obtain⟨bg,_,bh,_⟩:=bc6 D.o;have T:=un (a.size);clear y a hk V;go_wp2_with fail
 refine(Bs.new m t s z (bc A cols) u2.heap.size S _ J.o f.o.sq ω aK.o (zC3 (ziY ai.o))).mono ?_;rintro e O (⟨qb,hr,rfl,hs,hb⟩ | ⟨hr,rfl,hb⟩)
 ·refine μ7 hs (zad hb D.o) (P.o.below hb) (aa.o.below hb) (J.o.below hb) (show zjE O wr.heap.size qb m S (bc A cols)from hs) (F.o.trans ((hb).mono F.o.size)) λah E ab Z ae aI G=>?_;obtain⟨bb,_,bd,_,bj,_,bk,_,bm,_,a6,_⟩:=bc6 E.o;clear hr hs hb;go_wp2_with fail
  refine zaS (S:=λw'=>χ w' w 0 (rA,m,rc)/\χ w' w 1 (.int .i64 (N:Int))/\χ w' w 2 (bA,m,bc_)/\χ w' w 3 (kA,N,kc)/\χ w' w 4 (.int .i64 (own:Int))/\χ w' w 5 (eA,m,ec)) [] (h:=λhHeld=>?_);refine zaw [0,1,3] ?_;repeat refine tkL (hS:=hHeld) (h:=?_)
  refine zao ?_;refine zaB 2 (h:=λK l=>?_);go_simp;(go_at_call 115;(refine(Sl.clone tA m tc (cols.map fun(x:Nat)=>(x:Int)) L _ (Z.o.drew.toZ) ω).mono ?_);rintro e r ⟨T4,c4,rfl,hz,hb⟩;refine μ6 (zad hb E.o) (ab.o.drew.below hb) (ae.o.drew.below hb) (aI.o.drew.below hb) (show IntsS r O (.slice T4 (cols.map fun(x:Nat)=>(x:Int)).length c4) cols from hz.toS) (G.o.trans ((It.bdrew0' hb).mono G.o.size)) λad ax aB a8 aQ aA=>?_;obtain⟨be,_,bf,_,aC,_,bl,_,bn,_,a7,_⟩:=bc6 ad.o;have aG:=un hb;clear hb;clear hz);(try go_wp2_with fail);refine shutOn l λhHeld=>?_;clear l K;refine zaw [4] ?_;repeat refine tkL (hS:=hHeld) (h:=?_)
  refine zao ?_;refine zaB 5 (h:=λK l=>?_);go_simp;refine shutOn l λhHeld=>?_;clear l K;refine zaw [6] ?_;repeat refine tkL (hS:=hHeld) (h:=?_)
  refine zao ?_;refine zaM (h:=?_);have aN:=un (show(cols.map fun(x:Nat)=>(x:Int)).length=m by rw[ZK,f.o.len]);rw[f.o.len];refine μ3 (show IntsS r O (T4,m,c4) cols by have h:=aQ.o;rw[aN.o]at h;exact h) (show wr.heap.size<=O.heap.size from ah.o.hle) (show Below w w r from aA.o) λaj aV H=>?_;have s2:χ (r.alloc (.cells #[(rA,m,rc),(N:Int),(bA,m,bc_),(kA,N,kc),(own:Int),(eA,m,ec),(T4,m,c4),.pointer (some ⟨qb,0,none⟩),()] 202)) w 2 (bA,m,bc_):=cell_al aC;refine μ4 (zal r #[(rA,m,rc),(N:Int),(bA,m,bc_),(kA,N,kc),(own:Int),(eA,m,ec),(T4,m,c4),.pointer (some ⟨qb,0,none⟩),()] 202) (a8.o.alloc (.cells #[(rA,m,rc),(N:Int),(bA,m,bc_),(kA,N,kc),(own:Int),(eA,m,ec),(T4,m,c4),.pointer (some ⟨qb,0,none⟩),()] 202)) ((((ah.o.drew.later (tb:=(Value.slice T4 m c4).ownBlock) (λg hg=>(aj.o.own.lt g hg).1)).below aG.o).alloc (.cells #[(rA,m,rc),(N:Int),(bA,m,bc_),(kA,N,kc),(own:Int),(eA,m,ec),(T4,m,c4),.pointer (some ⟨qb,0,none⟩),()] 202))) (ax.o.alloc (.cells #[(rA,m,rc),(N:Int),(bA,m,bc_),(kA,N,kc),(own:Int),(eA,m,ec),(T4,m,c4),.pointer (some ⟨qb,0,none⟩),()] 202)) λKT aJ aH aP=>?_;go_wp2_with fail
  refine(Bs.solve wr.heap.size qb m S S (bc A cols) bA bc_ b 0 _ aJ.o aP.o.B ω I.o.zb I.o.hS (ziY ai.o)).mono ?_;rintro e Y ⟨X6,n6,c6,rfl,hv6,hb⟩;have ak:=un hv6;have ag:=un hb;obtain rfl:m=n6:=by rw[ak.o.len,(zci f.o.sq f.o.reg b).2]
  have M:=un (zad hb KT.o);have aR:=un ((aj.o.alloc (.cells #[(rA,m,rc),(N:Int),(bA,m,bc_),(kA,N,kc),(own:Int),(eA,m,ec),(T4,m,c4),.pointer (some ⟨qb,0,none⟩),()] 202)).below hb);have t8:=zac M.o 8;have bC:=zag M.o 8;simp only[Xa,Z9,XH]at t8;clear hv6 hb;go_wp2;have X:TKeep 202 Y (Y.setCell ⟨r,8,none⟩ (X6,m,c6)):=TKeep.set M.o _;have aq:Below w w (Y.setCell ⟨r,8,none⟩ (X6,m,c6)):=(H.o.trans (((zae r _).trans (ag.o.mono σ)).mono H.o.size)).setCell (p:=⟨r,8,none⟩) H.o.size _;have a1:=H.o.size;have bw:=aU.o;have bx:=T.o;have bz:=aV.o;refine Zh (v:=.tuple #[.pointer (some ⟨r,0,none⟩),.nilIface]) (by simp[results,results92,go_sem]) rfl ?_;refine⟨r.heap.size,T4,c4,rfl,⟨qb,X6,c6,?_,I.o,aq,Za _,(aR.o.base ω).tk X δ,((aH.o.below ag.o).base ω).tk X δ δ δ δ δ δ δ,?_,f.o,a1⟩,aq⟩;have:=zar (o:=8) (X6,m,c6) M.o;simpa using this;unfold za5;rw[f.o.len];exact(ak.o.base (by simp;omega)).tk X δ δ
 exact absurd f.o.reg hr
end Tb
def sgI (q:Rat):Int:=if q<0 then -1 else 1
theorem zUb(q:Rat):((sgI q:Int):Rat)=sgn q:=by unfold sgI sgn;split<;>rfl
theorem zTW(q:Rat):sgI q = -1\/sgI q=1:=by unfold sgI;split<;>simp
def bkL (zs:List Int) (ys:List Rat) (k:Nat):List Rat:=(List.range ys.length).map λi=>if i<k then ((zs.getD i 0:Int):Rat)*el ys i else el ys i
theorem zSJ(zs:List Int)(ys:List Rat)(k:Nat):(bkL zs ys k).length=ys.length:=by simp[bkL]
theorem zVQ(zs:List Int)(ys:List Rat):bkL zs ys 0=ys:=by apply Xc;intro i;unfold bkL;rw[Z2];grind[List.getElem?_range,zaH,List.getElem?_eq_none]
theorem zTv{i:Nat}(h:i<ys.length):(bkL zs ys k)[i]? = some (if i<k then ((zs.getD i 0:Int):Rat)*el ys i else el ys i):=by unfold bkL;rw[Z2,XC h];rfl
theorem zXf(h:k<ys.length):(bkL zs ys k).set k (((zs.getD k 0:Int):Rat)*el ys k)=bkL zs ys (k+1):=by
 apply Xc;intro i;rw[XA];by_cases hi:i<ys.length;rw[zTv hi,zTv hi,zSJ];by_cases e:k=i;subst e;rw[if_pos rfl,if_pos h,if_pos ω];rw[if_neg e];by_cases a:i<k;rw[if_pos a,if_pos ω];rw[if_neg a,if_neg ω]
 simp_all[Xe,zSJ,if_neg]
def zUG (N m k:Nat):List Rat:=List.replicate N 0++(List.replicate k 1++List.replicate (m-k) 0)
theorem zVD(N m:Nat):zUG N m 0=List.replicate (N+m) 0:=by unfold zUG;simp_all
theorem zWG(N m:Nat):zUG N m m=zJG N m:=by unfold zUG zJG;simp
theorem zWI(h:k<m):(zUG N m k).set (N+k) 1=zUG N m (k+1):=by unfold zUG;rw[Yo,if_neg (by rw[ZO];omega),ZO,Vz,Yo,if_neg (by rw[ZO];omega),ZO,Xq,show m-k=(m-(k+1))+1 by omega,Ys,List.set_cons_zero,Yg (n:=k),XT];rfl
theorem zWH(h:k<m):(zUG N m k)[N+k]? = some 0:=by unfold zUG;rw[ZJ (by rw[ZO];omega),ZO,Vz,ZJ (by rw[ZO];omega),ZO,Xq,Z8,if_pos ω]
theorem zUR(N k:Nat):zKa N (k+1)=zKa N k++[N+k]:=by unfold zKa;rw[Yd,Ye];rfl
theorem zUB(N m:Nat):zsn (N+m) N=zKc N m:=by unfold zsn zKc;rw[Vz]
def zVK (w:World) (n:Nat) (xs:List Bool) (e:Ending) (w':World):Prop:=∃(A:OA) (c:Nat),e=.returned (A,n,c)/\BoolsS w' w (A,n,c) xs/\Below w w w'
namespace Pr
theorem pmay(rA:OA)(rc:Nat)(bA:OA)(bc_:Nat)(kA:OA)(kc:Nat)(eA:OA)(ec:Nat)(g:OA)(j m a own N:Nat)(w:World)(D:N<=a)(z:a<=64) :
  Calls prog 49 #[.agg #[(rA,m,rc),(a:Int),(bA,m,bc_),(kA,a,kc),(own:Int),(eA,m,ec),(g,m,j),(N:Int)]] w (zVK w a (zsn a N)):=by
 obtain⟨W,e⟩:∃W,(w.alloc (.cells #[(rA,m,rc),(a:Int),(bA,m,bc_),(kA,a,kc),(own:Int),(eA,m,ec),(g,m,j),(N:Int)] 118))=W:=⟨_,rfl⟩
 refine μ3 (show θ W w.heap.size #[(rA,m,rc),(a:Int),(bA,m,bc_),(kA,a,kc),(own:Int),(eA,m,ec),(g,m,j),(N:Int)] 118by rw[<-e];exact zam σ) (show Below w w W by rw[<-e];exact zae w _) (show w.heap.size+1<=W.heap.size by rw[<-e];simp) λf n u=>?_;obtain⟨_,_,_,_,_,_,aB,_⟩:=bc8 f.o;go_enter func49,ntmps49;go_wp2_with (at_make;go_must (refine zf8 rfl _ _ rfl a _ rfl rfl rfl ω W.heap.size rfl ?_;intro w1 q l;refine μ3 l (zad l f.o) (q) λr x s=>?_;obtain⟨_,_,_,_,_,_,_,_,_,_,_,_,_,_,Y,_⟩:=bc8 x.o;clear q l))
 clear e
 go_loopw [12] (λi wr=>∃k:Nat,i=.int .i64 k/\k<=N/\BoolsS wr W.heap.size (.slice (some ⟨W.heap.size,0,none⟩) a a) (zsn a k)/\Below W.heap.size W wr)
  (λi _=>N-(intOf i).toNat)
 case atStart=>exact⟨0,rfl,Zb _,by rw[zhU];exact s.o,r.o⟩
 obtain⟨k,rfl,hk,d,c⟩:=hrel;refine μ4 (zad c f.o) (d) (Bel.mk c) (n.o.trans ((c).mono n.o.size)) λv o t y=>?_;by_cases C:k<N
 ·have y0:=d.at_ (zrF (show k<a by omega));have E:=d.fro k;have A:(0:Int)<=(k:Int):=Zf _;have B:(k:Int)<(a:Int):=ω
  clear d c;go_wp2;go_roundw
  case rel=>exact⟨k+1,by go_num,ω,by rw[<-zoQ (show k<a by omega)];exact o.o.store k true,t.o.b.setCell (p:=⟨W.heap.size,k,none⟩) (Za _) _⟩
  case measure=>simp[intOf];omega
 obtain rfl:N=k:=ω;clear d c;go_wp2;go_ret;exact⟨_,_,rfl,o.o.base (by have:=u.o;omega),y.o⟩
theorem pback(rA:OA)(rc:Nat)(bA:OA)(bc_:Nat)(kA:OA)(kc:Nat)(eA:OA)(ec:Nat)(p:OA)(n m f own N:Nat)(zs:List Int)(V:Nat)(Y:OA)(x H:Nat)(ys:List Rat)(S:Nat)(w:World)(P:IntsZ w V (p,m,n) zs)(X:∀z∈zs,z = -1\/z=1)(O:VecS w H (Y,m,x) ys)(hS:8*S+8<=LIM)(h1:1<=S)(zy:∀q∈ys,mw q<=S)(c:m<=64) :
  Calls prog 53 #[.agg #[(rA,m,rc),(f:Int),(bA,m,bc_),(kA,f,kc),(own:Int),(eA,m,ec),(p,m,n),(N:Int)],(Y,m,x)] w (zq5 w (bkL zs ys m)):=by
 refine μ6 P.len O.len X hS h1 zy λal F av ap H1 ZY=>?_;have aT:m<=9223372036854775807:=ω;clear X hS h1 zy;obtain⟨W,r⟩:∃W,(w.alloc (.cells #[(rA,m,rc),(f:Int),(bA,m,bc_),(kA,f,kc),(own:Int),(eA,m,ec),(p,m,n),(N:Int)] 118))=W:=⟨_,rfl⟩
 refine μ4 (show θ W w.heap.size #[(rA,m,rc),(f:Int),(bA,m,bc_),(kA,f,kc),(own:Int),(eA,m,ec),(p,m,n),(N:Int)] 118by rw[<-r];exact zam σ) (show Below w w W by rw[<-r];exact zae w _) (show IntsZ W V (p,m,n) zs by rw[<-r];exact(P).alloc _) (show VecS W H (Y,m,x) ys by rw[<-r];exact(O).alloc _) λJ E R aq=>?_;obtain⟨bH,bN,bI,bC,bR,bV,cn,ch,cp,ck,bc,a9,bq,bm,bi,bn⟩:=bc8 J.o;clear P O;go_enter func53,ntmps53;go_wp2_with fail
 clear r;refine(Vc.copy Y m x ys H _ aq.o ω).mono ?_;rintro e w1 ⟨A7,c7,rfl,d,c⟩;have aD:=un (zad c J.o);have HO:=un (d);obtain⟨bF,bL,bG,bM,bQ,bS,co,ci,cq,cl,bd,ba,bz,bo,bB,bp⟩:=bc8 aD.o;have ai:=un c;clear d c;go_upto_region 2 with fail
 have aU:¬(m:Int)<(m:Int):=ω;go_cut[14,15] (λa b wr=>a=(m:Int)/\b=.int .i64 0/\wr=w1)
 case first =>
  go_wp2
  all_goals
   go_meet
   case rel=>exact⟨by first | rfl | (simp;done),rfl,rfl⟩
 obtain⟨rfl,rfl,rfl⟩:=hcut;rename World=>w1
 go_wp2
 go_loopw [15] (λi wr=>∃k:Nat,i=.int .i64 k/\k<=m/\VecS wr W.heap.size (A7,m,c7) (bkL zs ys k)/\Below W.heap.size W wr)
  (λi _=>m-(intOf i).toNat)
 case atStart=>exact⟨0,rfl,Zb _,by rw[zVQ];exact HO.o,ai.o⟩
 obtain⟨k,rfl,hk,d,o⟩:=hrel;by_cases A:k<m
 ·obtain⟨l,rfl,_,_⟩:=d.has ω;obtain⟨L,rfl,_,_⟩:=R.o.has ω;have Q:zs[k]? = some (zs.getD k 0):=zaO (by rw[<-al.o];exact A);obtain⟨y,s,B,u,t,C,v,y0,y1,Z,M⟩:=d.at_ (zTv (zs:=zs) (k:=k) (by rw[<-F.o];exact A));rw[if_neg (XW k)]at M;have l0:=(R.o.below o).at_ Q;have b2:=d.fro (k*3);have b3:=d.fro (k*3+1);have b4:=d.fro (k*3+2);have U:=un (av.o _ (Zz Q));have au:=un (ZY.o _ (Zz (zaH (xs:=ys) (j:=k) (by rw[<-F.o];exact A))))
  have T:=un (zXf (zs:=zs) (ys:=ys) (k:=k) (by rw[<-F.o];exact A));generalize zs.getD k 0=z at l0 U T;refine μ4 (zad o J.o) (M) (d) (Bel.mk o) λaa an G HW=>?_;obtain⟨bJ,bD,bK,bE,b1,bY,cf,cb,cg,b9,be,bb,bs,br,bv,bj⟩:=bc8 aa.o;have aF:=l0;have az:=zaa aF;have aH:=y0;have aA:=zaa aH;have aI:=y1;have aB:=zaa aI;have aK:=Z;have aC:=zaa aK;have I:=un (show I64 z by rcases U.o with rfl | rfl<;>exact⟨δ,δ⟩);have L1:=un (show 4*(mw ((z:Int):Rat)+mw (el ys k))+8<=LIM by have:=zu9 z I.o;have:=au.o;have:=ap.o;have:=H1.o;omega);have ay:=(d.lt rfl).1;have aR:(0:Int)<=(k:Int):=Zf _;have aS:(k:Int)<(m:Int):=ω;clear d o Q y0 y1 Z l0 M;go_wp2_with fail
  refine za2 (S:=λw'=>χ w' w 0 (rA,m,rc)/\χ w' w 1 (.int .i64 (f:Int))/\χ w' w 2 (bA,m,bc_)/\χ w' w 3 (kA,f,kc)/\χ w' w 4 (.int .i64 (own:Int))/\χ w' w 5 (eA,m,ec)/\χ w' w 6 (L,m,n)/\χ w' w 7 (.int .i64 (N:Int))/\χ w' L k (.int .i64 z)/\χ w' l (k*3) (.bool y)/\χ w' l (k*3+1) (s,B,u)/\χ w' l (k*3+2) (t,C,v)) 14 (h:=λhHeld=>?_);refine zaw [0,1,2,3,4,5,6,8,9,10,11] ?_;repeat refine tkE (hS:=hHeld) (h:=?_)
  refine zao ?_;refine zaN 7 (h:=λK g=>?_);go_simp;(go_at_call 30;(refine(Rt.int z I.o.1 I.o.2 _).mono ?_);rintro e u1 ⟨g1,A1,m1,c1,D1,md1,cd1,rfl,hn,c⟩;refine μ5 (zad c aa.o) (an.o.drew.below c) (G.o.drew.below c) (HW.o.drew.below c) (hn) λab aQ aP aO HM=>?_;obtain⟨bZ,bO,b0,bP,b8,b5,a8,ct,a5,cu,a6,cr,bt,bf,bw,bk⟩:=bc8 ab.o;have ac:=zab c az;have aX:=zaa ac;have ad:=zab c aA;have aZ:=zaa ad;have af:=zab c aB;have a1:=zaa af;have ae:=zab c aC;have a3:=zaa ae;clear hn c);(try go_wp2_with fail);refine shutOn g λhHeld=>?_;clear g K;refine zaN 12 (h:=λK g=>?_);go_simp;(go_at_call 29;(refine(Rt.mul g1 A1 m1 c1 D1 md1 cd1 ((z:Int):Rat) y s B u t C v (el ys k) _ HM.o aQ.o L1.o).mono ?_);rintro e u2 ⟨g2,A2,m2,c2,D2,md2,cd2,rfl,hn,c⟩;refine μ4 (zad c ab.o) (aP.o.below c) (aO.o.below c) (hn) λaE D aN HS=>?_;obtain⟨bW,bT,bX,bU,cc,b6,cj,cd,cm,ce,a7,cs,bu,bh,bx,bl⟩:=bc8 aE.o;have aG:=zab c ac;have aY:=zaa aG;have aJ:=zab c ad;have a0:=zaa aJ;have aL:=zab c af;have a2:=zaa aL;have aM:=zab c ae;have a4:=zaa aM;have aV:=D.o.fro (k*3);have of1:=D.o.fro (k*3+1);have aW:=D.o.fro (k*3+2);clear hn c);(try go_wp2_with fail);refine shutOn g λhHeld=>?_;clear g K;refine zaw [13] ?_;repeat refine tkE (hS:=hHeld) (h:=?_)
  refine zao ?_;refine zba (h:=λK g=>?_);go_simp;refine shutOff g ?_;clear g K;refine za1 (h:=?_);go_wp2;go_roundw
  case rel=>exact⟨k+1,by go_num,ω,by rw[<-T.o];exact VecS.store D.o k HS.o,(Bel.set3 aN.o ay _ _ _).b⟩
  case measure=>simp[intOf];omega
 obtain rfl:m=k:=ω;have G:=un d;have HF:=un o;clear d o;go_wp2;go_ret;exact⟨_,_,_,rfl,G.o.base E.o.size,E.o.trans (HF.o.mono E.o.size)⟩
theorem pfirst(rA:OA)(rc:Nat)(bA:OA)(bc_:Nat)(kA:OA)(kc:Nat)(eA:OA)(ec:Nat)(r:OA)(s m a own N:Nat)(lA:List Value)(S:Nat)(A:List (List Rat))(b c:List Rat)(left:List Int)(w:World)(hS:StdP w rA rc lA bA bc_ kA kc eA ec m a S A b c left)(O:N+m=a)(d:Basis m a A (zKa N m))(Q:zor m S<=LIM) :
  Calls prog 116 #[.agg #[(rA,m,rc),(a:Int),(bA,m,bc_),(kA,a,kc),(own:Int),(eA,m,ec),(r,m,s),(N:Int)]] w λe w'=>∃(D:World) (q:Nat) (C:OA) (cC:Nat) (x:OA) (y:Nat),e=.returned (.tuple #[.pointer (some ⟨q,0,none⟩),(C,a,cC)])/\zhi D w' D.heap.size q rA rc lA bA bc_ kA kc eA ec m a S own A b c left x y (zKa N m)/\VecS w' w (C,a,cC) (zJG N m)/\Below w w D/\Below w w w':=by
 refine μ3 O d Q λo ad ae=>?_;have aS:=hS.hm;have aV:=hS.hN;have aT:m<=9223372036854775807:=ω;clear O d Q;obtain⟨W,j⟩:∃W,(w.alloc (.cells #[(rA,m,rc),(a:Int),(bA,m,bc_),(kA,a,kc),(own:Int),(eA,m,ec),(r,m,s),(N:Int)] 118))=W:=⟨_,rfl⟩
 refine μ4 (show θ W w.heap.size #[(rA,m,rc),(a:Int),(bA,m,bc_),(kA,a,kc),(own:Int),(eA,m,ec),(r,m,s),(N:Int)] 118by rw[<-j];exact zam σ) (show Below w w W by rw[<-j];exact zae w _) (show w.heap.size+1<=W.heap.size by rw[<-j];simp) (show StdP W rA rc lA bA bc_ kA kc eA ec m a S A b c left by rw[<-j];exact(hS).alloc _) λp G HZ HS=>?_;obtain⟨bI,bO,bJ,bD,bS,bW,cu,cm,cx,cq,ba,a7,bn,bj,bf,bk⟩:=bc8 p.o;clear hS;go_enter func116,ntmps116;go_wp2_with (at_make;go_must (refine zdv rfl _ _ rfl a _ rfl rfl rfl ω W.heap.size rfl ?_;intro w1 V t;refine μ3 t (zad t p.o) (show VecS w1 W.heap.size (.slice (some ⟨W.heap.size,0,none⟩) a a) (List.replicate a 0)from V) λab aE HO=>?_;obtain⟨bG,bM,bH,bN,bR,bT,cw,cn,cy,cr,bb,a8,bx,bl,bz,bm⟩:=bc8 aE.o;clear V t))
 clear j
 go_loopw [4,17] (λcv i wr=>∃(k:Nat) (T:OA) (tc:Nat),i=.int .i64 k/\cv=(T,k,tc)/\k<=m/\VecS wr W.heap.size (.slice (some ⟨W.heap.size,0,none⟩) a a) (zUG N m k)/\IntsS wr W.heap.size (T,k,tc) (zKa N k)/\Below W.heap.size W wr)
  (λ_ i _=>m-(intOf i).toNat)
 case atStart=>exact⟨0,none,0,rfl,rfl,Zb _,by rw[zVD,o.o];exact HO.o,IntsS.nil _ _,ab.o⟩
 obtain⟨k,T,tc,rfl,rfl,hk,v,hi,d⟩:=hrel;refine μ6 (zad d p.o) (HS.o.below d) (show VecS wr W.heap.size (.slice (some ⟨W.heap.size,0,none⟩) a a) (zUG N m k)from v) (show IntsS wr W.heap.size (T,k,tc) (zKa N k)from hi) (show Bel W wr from Bel.mk d) (G.o.trans ((d).mono G.o.size)) λX aD I H L E=>?_;obtain⟨bK,bE,bL,bF,b6,b1,ck,cd,cl,cb,bc,a9,bq,bo,bt,bg⟩:=bc8 X.o;by_cases U:k<m
 ·have af:=un (zWH (N:=N) U);have al:=un (zWI (N:=N) U);have aK:(0:Int)<=(k:Int):=Zf _;have aL:(k:Int)<(m:Int):=ω
  have aM:(0:Int)<=(N:Int):=Zf _;have aN:(N:Int)+(k:Int)<(a:Int):=by have:=o.o;omega
  have aO:N+k<a:=by have:=o.o;omega
  have aU:N<=64:=by have:=o.o;omega
  clear v hi d;go_wp2_with (at_builtin;go_loud (refine ziP rfl _ _ rfl rfl (H.o.alloc _) rfl (z:=N+k) (zal _ _ _) (n:=k) (by simp[zKa]) ω (by simp;have:=L.o.b.size;omega) ?_;intro F M B P R f;refine μ3 P ((I.o.alloc _).tk R δ δ) ((L.o.alloc _).b.trans f) λaj ao ac=>?_;clear P R f))
  have aq:=un (show IntKind.i64.wrap ((N:Int)+(k:Int))=((N+k:Nat):Int)by rw[IntKind.wrap_i64];omega);have aP:(0:Int)<=((N+k:Nat):Int):=Zf _;have aQ:((N+k:Nat):Int)<(a:Int):=ω;have aR:(0:Int)<=(N:Int)+(k:Int):=ω;have an:=un (show((N:Int)+(k:Int)).toNat=N+k by omega);have f:=ac.o;refine μ4 (zad f p.o) (show VecS B W.heap.size (.slice (some ⟨W.heap.size,0,none⟩) a a) (zUG N m k)from ao.o) (show IntsS B W.heap.size (F,k+1,M) (zKa N k++[N+k])from aj.o) (show Bel W B from Bel.mk f) λY J ag ap=>?_;obtain⟨bZ,bU,b0,bV,ce,b8,co,cg,cs,ci,a4,cA,bs,be,bv,bi⟩:=bc8 Y.o;obtain⟨ga,Z,ma,ca,Da,az,av,y0,y1,y2,ax⟩:=J.o.at_ af.o;clear f ax;go_wp2_with fail
  refine za2 (S:=λw'=>χ w' w 0 (rA,m,rc)/\χ w' w 1 (.int .i64 (a:Int))/\χ w' w 2 (bA,m,bc_)/\χ w' w 3 (kA,a,kc)/\χ w' w 4 (.int .i64 (own:Int))/\χ w' w 5 (eA,m,ec)/\χ w' w 6 (r,m,s)/\χ w' w 7 (.int .i64 (N:Int))/\χ w' W.heap.size ((N+k)*3) (.bool ga)/\χ w' W.heap.size ((N+k)*3+1) (Z,ma,ca)/\χ w' W.heap.size ((N+k)*3+2) (Da,az,av)) 7 (h:=λhHeld=>?_);refine zaw [0,1,2,3,4] ?_;repeat refine tkE (hS:=hHeld) (h:=?_)
  refine zao ?_;refine zaN 5 (h:=λK g=>?_);go_simp;(go_at_call 30;(refine(Rt.int 1 δ δ _).mono ?_);rintro e u1 ⟨g1,A1,m1,c1,D1,md1,cd1,rfl,hn,hb⟩;refine μ5 (zad hb Y.o) (J.o.drew.below hb) (ag.o.drew.below hb) (ap.o.drew.below hb) (hn) λaH l aB aC HM=>?_;obtain⟨b2,bX,b3,bY,cf,cc,cp,ch,ct,cj,a5,cB,bB,bw,bC,bp⟩:=bc8 aH.o;have z0:=zab hb y0;have z1:=zab hb y1;have z2:=zab hb y2;have aW:=l.o.fro ((N+k)*3);have of1:=l.o.fro ((N+k)*3+1);have aX:=l.o.fro ((N+k)*3+2);clear hn hb);(try go_wp2_with fail);refine shutOn g λhHeld=>?_;clear g K;rw[aq.o];refine zaw [6] ?_;repeat refine tkE (hS:=hHeld) (h:=?_)
  refine zao ?_;simp only[an.o];refine zba (h:=λK g=>?_);go_simp;refine shutOff g ?_;clear g K;refine za1 (h:=?_);go_wp2;obtain⟨aJ,u⟩:=l.o.ratBlk;go_roundw
  case rel=>exact⟨k+1,F,M,by go_num,rfl,ω,by rw[<-al.o];exact VecS.store l.o (N+k) HM.o,by rw[zUR];exact((aB.o.tk (TKeep.set u _) δ).tk (TKeep.set (zar _ u) _) δ).tk (TKeep.set (zar _ (zar _ u)) _) δ,(Bel.set3 aC.o (Za _) _ _ _).b⟩
  case measure=>simp[intOf];omega
 obtain rfl:m=k:=ω;clear v hi d;go_wp2_with fail
 refine(Tb.new rA rc lA bA bc_ kA kc eA ec m a S own A b c left T tc (zKa N m) W.heap.size _ aD.o H.o ad.o ae.o).mono ?_;rintro e wt ⟨q,x,y,rfl,hT,hb⟩;refine μ3 (zad hb X.o) (I.o.below hb) (E.o.trans ((hb).mono E.o.size)) λaF aI aG=>?_;obtain⟨b4,bP,b5,bQ,b9,b7,a6,cD,a2,cE,a3,cz,br,bd,bu,bh⟩:=bc8 aF.o;have HT:=un hT;clear hT hb;go_wp2;go_ret2
 exact⟨wr,q,_,_,x,y,rfl,HT.o,by rw[<-zWG];exact aI.o.base (by have:=HZ.o;omega),E.o,aG.o⟩
