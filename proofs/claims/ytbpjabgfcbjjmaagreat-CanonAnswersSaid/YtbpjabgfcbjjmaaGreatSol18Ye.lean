/- Contracts and lemmas: Sol18 CaK CaA CaL CaS CaF CaE Sol21 Bsp Told. Conditions: as each says. -/
import Derived.Test.YtbpjabgfcbjjmaaGreatCan1Ye
set_option linter.all false
set_option maxHeartbeats 4000000
set_option maxRecDepth 100000
namespace Go.Proofs.YtbpjabgfcbjjmaaGreat
open Go.RowKit Am Go.Proofs.Tryz
variable {e:Ending}{A:List (List Rat)}{may:List Bool}{cols:List Nat}{rows:List PRow}{b c cost p:List Rat}{B N k m n nC own:Nat}{r:RunOut}{t:TypeId}{w w' w1:World}
def oO:Out->Int
  | .spent _=>0
  | .none .. => 2
  | .best .. => 1
  | .falls .. => 3
section
variable (nC m:Nat) (cost:List Rat) (rows:List PRow)
def oX:Out->List Rat
  | .best cols _=>(zh1 (nC+cnt rows m+m) cols (za5 (zt0 (zc3 rows) (zg8 rows)) (zwh (zg8 rows)) cols)).take nC
  | .falls cols _ _=>(zh1 (nC+cnt rows m+m) cols (za5 (zt0 (zc3 rows) (zg8 rows)) (zwh (zg8 rows)) cols)).take nC
  | _=>[]
def oY:Out->List Rat
  | .none cols _=>bkL ((zg8 rows).map sgI) (zcl (zt0 (zc3 rows) (zg8 rows)) cols (zJG (nC+cnt rows m) m)) m
  | .best cols _=>bkL ((zg8 rows).map sgI) (zcl (zt0 (zc3 rows) (zg8 rows)) cols (zKb m (zjD cost rows))) m
  | _=>[]
def oZ:Out->List Rat
  | .falls cols j _=>(zTj (nC+cnt rows m+m) cols (zav (zt0 (zc3 rows) (zg8 rows)) cols j) j m).take nC
  | _=>[]
def sol:Out:=zSA (nC+cnt rows m) m (zc3 rows) (zg8 rows) (zjD cost rows) 4000
end
def Few (nC m:Nat) (rows:List PRow):Prop:=low (nC+cnt rows m) m+m+pmax 0 (nC+cnt rows m) m<=4000
theorem yxY(hc:nC<=5)(hm:m<=5)(h:nC+cnt rows m<=10):Few nC m rows:=yZD _ ω _ hm
theorem Good1.few(h:Good1 nC m cost rows):Few nC m rows:=yxY h.hc (by have:=h.hr;omega) (by have:=h.hc;have:=h.hr;have:=zgO rows m;omega)
section
variable {S nC m:Nat} {cost:List Rat} {rows:List PRow} (hg:GoodS S nC m cost rows) (hF:Few nC m rows) (hlc:cost.length=nC) (hlr:rows.length=m)
include hg hF hlc hlr
end
def z6n (w:World) (o:Int) (X Y Z:List Rat) (n:Nat) (e:Ending) (w':World):Prop :=
  ∃(P:OA) (nP cP:Nat) (Q:OA) (nQ cQ:Nat) (D:OA) (nD cD:Nat),e=.returned (.tuple #[.agg #[.int .i64 o,(P,nP,cP),(Q,nQ,cQ),(D,nD,cD),(n:Int)],.nilIface])/\VecS w' 0 (P,nP,cP) X/\VecS w' 0 (Q,nQ,cQ) Y/\VecS w' 0 (D,nD,cD) Z/\Below w w w'
theorem zVM.u{o:Out}(h:zVM w nC m (nC+cnt rows m) (nC+cnt rows m+m) (zc3 rows) (zg8 rows) (zjD cost rows) B o e w')(r:∀n,o≠.spent n):z6n w (oO o) (oX nC m rows o) (oY nC m cost rows o) (oZ nC m rows o) o.pivots e w':=by
 obtain⟨g,h⟩:=h;cases o with
 | spent n=>exact(r n rfl).elim
 | none cols n =>
  obtain⟨Y,f,a,k⟩:=h;exact⟨none,0,0,Y,m,f,none,0,0,a,.nil _ _,k.base (Zb _),.nil _ _,g⟩
 | best cols n =>
  obtain⟨P,d,Y,f,a,i,k⟩:=h;exact⟨P,nC,d,Y,m,f,none,0,0,a,i.base (Zb _),k.base (Zb _),.nil _ _,g⟩
 | falls cols j n =>
  obtain⟨P,d,D,l,a,i,p⟩:=h;exact⟨P,nC,d,none,0,0,D,nC,l,a,i.base (Zb _),.nil _ _,p.base (Zb _),g⟩
namespace Pr
section
variable (S:Nat) (C:OA) (nC cC:Nat) (R:OA) (m cR:Nat) (cost:List Rat) (rows:List PRow) (w:World) (hc:VecS w 0 (C,nC,cC) cost) (hr:RowsS w 0 (R,m,cR) rows) (hg:GoodS S nC m cost rows) (hF:Few nC m rows)
include hc hr hg hF
end
end Pr
attribute [local go_sem ↓] Go.wp_at_zero Go.wp_at_succ
def keepT (p:List Rat) (may:List Bool) (k:Nat):List Bool:=(List.range may.length).map λj=>if j<k then may.getD j false&&decide (el p j=0)else may.getD j false
theorem ytc(p:List Rat)(may:List Bool)(k:Nat):(keepT p may k).length=may.length:=by simp[keepT]
theorem ytg{j:Nat}(h:j<may.length):(keepT p may k)[j]? = some (if j<k then may.getD j false&&decide (el p j=0)else may.getD j false):=by unfold keepT;rw[Z2,XC h];rfl
theorem ytB(p:List Rat)(may:List Bool):keepT p may 0=may:=by apply Xc;intro j;by_cases h:j<may.length;rw[ytg h,if_neg (ZM _)];exact(zaO h).symm;rw[Xe (by rw[ytc];omega),Xe ω]
theorem ytG(p:List Rat)(may:List Bool):keepT p may may.length=ys7 p may:=by unfold keepT ys7;refine YK λj hj=>?_;rw[if_pos (Xu.1 hj)]
theorem ytH(h:k<may.length):(keepT p may k)[k]? = some (may.getD k false):=by rw[ytg h,if_neg (XW k)]
theorem ytI(h:k<may.length){x:Bool}(d:(may.getD k false&&decide (el p k=0))=x):(keepT p may k).set k x=keepT p may (k+1):=by apply Xc;intro j;rw[XA];by_cases hj:j<may.length;rw[ytg hj,ytg hj,ytc];by_cases e:k=j;subst e;rw[if_pos rfl,if_pos h,if_pos ω,d];rw[if_neg e];by_cases a:j<k;rw[if_pos a,if_pos ω];rw[if_neg a,if_neg ω];rw[Xe (by rw[ytc];omega),Xe (by rw[ytc];omega),if_neg ω]
theorem TKeep.trans{d:World}(h:TKeep t w w1)(e:TKeep t w1 d)(f:w.heap.size<=w1.heap.size):TKeep t w d:=λk hk a=>by rw[e k ω (by rw[h k hk a];exact a),h k hk a]
theorem TKeep.of_below(h:Below w w w1):TKeep t w w1:=λk hk _=>h.block k hk
theorem BoolsS.cellsB{H:Nat}{xs:List Bool}{b c:Nat}(h:BoolsS w H (b,n,c) xs):∃cs,θ w b cs 4:=by
 rcases h.own.2 with ⟨a,_⟩ | ⟨g',cap,cur,a,_,d,_⟩
 injection a with a;cases a;injection a with a;injection a with a;injection a with a;subst a;exact⟨_,d⟩
def TC:List TypeId:=4::TT
theorem Kept.more{T a:List TypeId}{b:Option Nat}(h:Kept T b w w1)(f:∀t∈T,t∈a):Kept a b w w1:=⟨λk cs t e n m=>h.all k cs t e (λd=>n (f t d)) m,h.size⟩
def ytJ (n:Nat) (cols:List Nat):List Nat:=if (cols.all λc=>decide (c<n))then cols else []
theorem yuh(hk:k<cols.length)(h:¬cols.getD k 0<n):ytJ n cols=[]:=by
 unfold ytJ;refine if_neg λe=>h ?_
 have:=Vw.1 e _ (Zz (zaO (d:=0) hk));exact XP this
theorem ytY(h:∀j,j<cols.length->cols.getD j 0<n):ytJ n cols=cols:=by unfold ytJ;refine if_pos (Vw.2 λx a=>?_);obtain⟨j,hj⟩:=Xv.1 a;have:=h j (ZF.1 hj).1;rw[getD_some (d:=0) hj]at this;exact ZT this
section
variable {W0 w w':World} {H q:Nat} {rA:OA} {rc:Nat} {lA:List Value} {bA:OA} {bc_:Nat} {kA:OA} {kc:Nat} {eA:OA} {ec m N S own:Nat} {A:List (List Rat)} {b c:List Rat} {left:List Int}
  {tA:OA} {tc:Nat} {cols:List Nat}
theorem zhi.bools(h:zhi W0 w H q rA rc lA bA bc_ kA kc eA ec m N S own A b c left tA tc cols)(hk:TKeep 4 w w')(a:Below H w w'):zhi W0 w' H q rA rc lA bA bc_ kA kc eA ec m N S own A b c left tA tc cols:=by obtain⟨qb,xA,xc,P⟩:=h;exact⟨qb,xA,xc,hk.blk P.blk δ,P.std,P.bel.trans (a.mono P.base),P.base,P.colsI.tk hk δ,P.basO.tk hk δ δ δ δ δ δ δ,P.x.tk hk δ δ,P.basis,P.own_⟩
namespace Ca
theorem keep(h:zhi W0 w H q rA rc lA bA bc_ kA kc eA ec m N S own A b c left tA tc cols)(C:OA)(cC Q:Nat)(f:List Rat)(D:VecS w Q (C,N,cC) f)(zC:∀x∈f,mw x<=S)(M:OA)(o n:Nat)(may:List Bool)(hm:BoolsS w n (M,N,o) may)(V:H<=n)(X:zor m S<=LIM) :
  Calls prog 132 #[.pointer (some ⟨q,0,none⟩),(C,N,cC),(M,N,o)] w λe w'=>e=.returned (.tuple #[])/\BoolsS w' n (M,N,o) (ys7 (zaC N A cols f) may) /\
   zhi W0 w' H q rA rc lA bA bc_ kA kc eA ec m N S own A b c left tA tc cols/\Below H w w'/\Kept TC (Value.slice tA m tc).ownBlock w w':=by
 refine μ10 h D zC hm X hm.len h.hle h.basis V (show(zaC N A cols f).length=N from zKp D.len.symm) λJ HC av HM ag I G aE ai K=>?_;have aL:=h.std.hN;clear h D zC hm X V;go_enter func132,ntmps132;go_wp2_with fail
 refine(Tb.prices J.o C cC f Q HC.o av.o ag.o).mono ?_;rintro e v1 ⟨F,a,U,rfl,hv,d⟩;obtain rfl:a=N:=by rw[hv.len,K.o]
 refine μ4 hv (J.o.below d) (HM.o.below d) d λHV HT am u=>?_;clear hv d;go_wp2_with fail
 go_loopw [17] (λi wr=>∃k:Nat,i=.int .i64 k/\k<=a/\BoolsS wr n (M,a,o) (keepT (zaC a A cols f) may k)/\TKeep 4 v1 wr/\v1.heap.size<=wr.heap.size/\Below H v1 wr)
  (λi _=>a-(intOf i).toNat)
 case atStart=>exact⟨0,rfl,Zb _,by rw[ytB];exact am.o,λ_ _ _=>rfl,Za _,Zj _ _⟩
 obtain⟨k,rfl,hk,hm,r,t,d⟩:=hrel;refine μ3 d r t λae ap B=>?_;by_cases Z:k<a
 ·obtain⟨s,rfl,aA,aK⟩:=hm.has ω;have O:=un hm;have E:k<may.length:=by rw[<-I.o];exact Z
  have y0:=hm.at_ (ytH (p:=zaC a A cols f) E);have yf:=hm.fro k;obtain⟨aF,Y⟩:=hm.cellsB;refine μ4 (λx (hx:(may.getD k false&&decide (el (zaC a A cols f) k=0))=x)=>ytI E hx) Y aA (HV.o.tk r δ δ) λan ah al P=>?_;have aI:(0:Int)<=(k:Int):=Zf _;have aJ:(k:Int)<(a:Int):=ω;clear hm r t d E Y;have L:=un (show ∀l (x:Bool),Below wr.heap.size wr l->(may.getD k false&&decide (el (zaC a A cols f) k=0))=x->BoolsS (l.setCell ⟨s,k,none⟩ (.bool x)) n (s,a,o) (keepT (zaC a A cols f) may (k+1))/\TKeep 4 v1 (l.setCell ⟨s,k,none⟩ (.bool x))/\v1.heap.size<=(l.setCell ⟨s,k,none⟩ (.bool x)).heap.size/\Below H v1 (l.setCell ⟨s,k,none⟩ (.bool x))from λl x h1 h2=>by have hh:H<=wr.heap.size:=Zl (Zl G.o u.o.size) B.o;have ay:=zad h1 ah.o;refine⟨by rw[<-an.o x h2];exact(O.o.below h1).store k x,(ap.o.trans ((TKeep.of_below h1).trans (TKeep.set ay _) h1.size) B.o),by have:=B.o;have:=h1.size;simp;omega,(ae.o.trans (h1.mono hh)).setCell (p:=⟨s,k,none⟩) (Zl ai.o al.o) _⟩);cases hmv:may.getD k false with
  | false =>
   rw[hmv]at y0;have z:=un (L.o · false · (by rw[hmv];rfl));go_wp2;go_roundw
   case rel=>exact⟨k+1,by go_num,ω,z.o _ (Zj _ _)⟩
   case measure=>simp[intOf];omega
  | true =>
   rw[hmv]at y0;have z:=un (λl h x (e:decide (el (zaC a A cols f) k=0)=x)=>L.o l x h (by rw[hmv,Bool.true_and];exact e));clear hmv;obtain⟨b,rfl,aG,aH⟩:=P.o.has ω;have hq:=zaH (xs:=zaC a A cols f) (j:=k) (by rw[K.o];exact Z);obtain⟨g,F,m1,U,D1,aD,aw,k0,k1,k2,W⟩:=P.o.at_ hq;have y:=un W;clear W hq;go_wp2_with fail
   with_reducible refine(Rt.zero g F m1 U D1 aD aw _ _ y.o).mono ?_
   rintro e l ⟨rfl,d⟩;have HY:=un (z.o l d _ rfl);have y2:=zab d y0;have aQ:=(O.o.below d).fro k;clear d;go_wp2;go_roundw
   case rel=>exact⟨k+1,by go_num,ω,HY.o⟩
   case measure=>simp[intOf];omega
 obtain rfl:a=k:=ω;refine μ4 (show BoolsS wr n (M,a,o) (ys7 (zaC a A cols f) may)by have h:=ytG (zaC a A cols f) may;rw[<-I.o]at h;rw[<-h];exact hm) (HT.o.bools r d) ((u.o.mono G.o).trans d) ((Kept.of_below u.o).trans (Kept.tk (T:=TC) (b:=(Value.slice tA m tc).ownBlock) r t δ)) λy aq ad aj=>?_;clear hm r t d;go_wp2;refine bodyPost_end (v:=.tuple #[]) (by simp[results,results132,go_sem]) rfl ?_;exact⟨rfl,y.o,aq.o,ad.o,aj.o⟩
theorem yui(h:zhi W0 w H q rA rc lA bA bc_ kA kc eA ec m N S own A b c left tA tc cols)(n:Nat) :
  Calls prog 71 #[.pointer (some ⟨q,0,none⟩),(n:Int)] w λe w'=>∃(B:OA) (k cB:Nat),e=.returned (B,k,cB)/\IntsS w' w (B,k,cB) (ytJ n cols)/\Below w w w':=by
 have v:=un h;have a:=un h.basis.len;have z:=h.std.hm;clear h;go_enter func71,ntmps71;go_wp2_with fail
 refine(Tb.basis v.o).mono ?_;rintro e w1 ⟨B0,cB,rfl,hi,hb⟩;have f:=un hi;have p:=un hb;clear hi hb;go_wp2_with fail
 go_loopw [12] (λi wr=>∃k:Nat,i=.int .i64 k/\k<=m/\wr=w1/\∀j,j<k->cols.getD j 0<n)
  (λi _=>m-(intOf i).toNat)
 case atStart=>exact⟨0,rfl,Zb _,rfl,λj hj=>absurd hj (ZM _)⟩
 obtain⟨k,rfl,hk,rfl,s⟩:=hrel;have o:=un s;clear s;by_cases r:k<m
 ·obtain⟨b,rfl,_,_⟩:=f.o.has ω;have y0:=f.o.at_ (zaO (L:=cols) (i:=k) (d:=0) (by rw[a.o];exact r));have x:(0:Int)<=(k:Int):=Zf _;have y:(k:Int)<(m:Int):=ω
  by_cases hc:cols.getD k 0<n
  ·have l:¬(n:Int)<=((cols.getD k 0:Nat):Int):=ω
   have t:=un (show ∀j,j<k+1->cols.getD j 0<n from λj hj=>by by_cases e:j=k;rw[e];exact hc;exact o.o j ω);clear hc;generalize cols.getD k 0=ck at y0 l;go_wp2;go_roundw
   case rel=>exact⟨k+1,by go_num,ω,by trivial,t.o⟩
   case measure=>simp[intOf];omega
  have l:(n:Int)<=((cols.getD k 0:Nat):Int):=ω;have g:=un (yuh (by rw[a.o];exact r) hc);generalize cols.getD k 0=ck at y0 l;clear hc;go_wp2;go_ret;exact⟨none,0,0,rfl,by rw[g.o];exact IntsS.nil _ _,p.o⟩
 obtain rfl:m=k:=ω;have g:=un (ytY λj hj=>o.o j (by rw[<-a.o];exact hj));go_wp2;go_ret;exact⟨_,_,_,rfl,by rw[g.o];exact f.o,p.o⟩
end Ca
end
open Pb (zPu)
def ytf (nC NN:Nat) (A:List (List Rat)) (b:List Rat) (G:List Nat):List Rat:=(zh1 NN G (za5 A b G)).take nC
def ytb (w:World) (nC NN:Nat) (A:List (List Rat)) (b cost:List Rat) (B:Nat) (bo:List Nat->List Nat) (o:COut) (e:Ending) (w':World):Prop :=
  Below w w w'/\match o with
    | .spent n=>∃fb num:Nat,e=.returned (.tuple #[.agg #[.int .i64 0,false,(),(),()],(n:Int),(),.iface 239 (.pointer (some ⟨fb,0,none⟩))])/\num<=B/\θ w' fb #[.string zve,(num:Int),.iface 93 (.int .i64 180)] 241
    | .none n=>e=.returned (.tuple #[.agg #[.int .i64 2,false,(),(),()],(n:Int),(),.nilIface])
    | .falls n=>e=.returned (.tuple #[.agg #[.int .i64 3,false,(),(),()],(n:Int),(),.nilIface])
    | .best cols G n=>∃(g:Bool) (Av:OA) (mv cv:Nat) (Dv:OA) (mdv cdv:Nat) (P:OA) (cP:Nat) (Ba:OA) (na ca:Nat),e=.returned (.tuple #[.agg #[.int .i64 1,g,(Av,mv,cv),(Dv,mdv,cdv),(P,nC,cP)],(n:Int),(Ba,na,ca),.nilIface]) /\
        RatS w' g (Av,mv,cv) (Dv,mdv,cdv) (dot cost (ytf nC NN A b G))/\VecS w' w (P,nC,cP) (ytf nC NN A b G)/\IntsS w' w (Ba,na,ca) (bo cols)
section
variable {W0 w w':World} {H q:Nat} {rA:OA} {rc:Nat} {lA:List Value} {bA:OA} {bc_:Nat} {kA:OA} {kc:Nat} {eA:OA} {ec m N S own:Nat} {A:List (List Rat)} {b c:List Rat} {left:List Int}
  {tA:OA} {tc:Nat} {cols:List Nat}
namespace Ca
theorem answer(h:zhi W0 w H q rA rc lA bA bc_ kA kc eA ec m N S own A b c left tA tc cols)(C:OA)(nC cC:Nat)(R:OA)(r cR:Nat)(cost:List Rat)(rows:List PRow)(hc:VecS w 0 (C,nC,cC) cost)(hr:RowsS w 0 (R,r,cR) rows)(t:nC<=N)(zc:Sm cost)(V:sB m S S<=4000000) :
  Calls prog 73 #[.agg #[(C,nC,cC),(R,r,cR)],.pointer (some ⟨q,0,none⟩)] w λe w'=>∃(g:Bool) (Av:OA) (mv cv:Nat) (G:OA) (aa Q:Nat) (P:OA) (a:Nat),e=.returned (.agg #[.int .i64 1,g,(Av,mv,cv),(G,aa,Q),(P,nC,a)])/\RatS w' g (Av,mv,cv) (G,aa,Q) (dot cost (ytf nC N A b cols))/\VecS w' w (P,nC,a) (ytf nC N A b cols)/\Below w w w':=by
 refine μ3 hc.len t zc λak J au=>?_;have aT:=h.std.hN;have aR:=un h.basis;have an:=un (show ∀q∈zh1 N cols (za5 A b cols),mw q<=4000000 by obtain⟨_,_,_,f⟩:=h;exact λq F=>Zl (z0l f.basis (f.basis.vals_ok _).2 (z0n f.basis f.bas.good.2.2 f.std.blen f.std.zb) (zma _ _ _) q F) V);clear t zc V;obtain⟨W,k⟩:∃W,((w.alloc (.cells #[(C,nC,cC),(R,r,cR)] 33)).alloc (.cells #[.int .i64 0,false,(),(),()] 68))=W:=⟨_,rfl⟩
 refine μ7 (show θ W w.heap.size #[(C,nC,cC),(R,r,cR)] 33by rw[<-k];exact zak (zam σ)) (show θ W (w.heap.size+1) #[.int .i64 0,false,(),(),()] 68by rw[<-k];exact zam σ) (show Below w w W by rw[<-k];exact(zae w _).alloc σ _) (show w.heap.size+2<=W.heap.size by rw[<-k];simp) (show VecS W 0 (C,nC,cC) cost by rw[<-k];exact((hc).alloc _).alloc _) (show RowsS W 0 (R,r,cR) rows by rw[<-k];exact((hr).alloc _).alloc _) (show zhi W0 W H q rA rc lA bA bc_ kA kc eA ec m N S own A b c left tA tc cols by rw[<-k];exact((h).alloc _).alloc _) λL M y HZ HC HR D=>?_;obtain⟨af,bv,br,bo⟩:=bc2 L.o;obtain⟨bJ,bG,bR,bD,bF,bL,bN,bB,bO,bP,b3,bT,cA,co,ck,cd,cB,cq,cm,cf⟩:=bf5 M.o;clear hc h hr;go_enter func73,ntmps73;have aW:=HZ.o;have aA:=y.o.size;have aU:(nC:Int)<=(N:Int):=by have:=J.o;omega
 have U:=J.o;go_upto_region 1 with fail
 clear k;go_cut[5] (λov wy=>∃(ob:Nat) (P:OA) (a:Nat),ov=.pointer (some ⟨ob,0,none⟩)/\W.heap.size<=ob/\θ wy ob #[.int .i64 1,false,(),(),(P,nC,a)] 68/\VecS wy W.heap.size (P,nC,a) (ytf nC N A b cols)/\Below W.heap.size W wy)
 case first =>
  refine zaS (S:=λw'=>χ w' w 0 (C,nC,cC)) [8] (h:=λhHeld=>?_);refine zaw [0,2,3,4] ?_;repeat refine tkL (hS:=hHeld) (h:=?_)
  refine zao ?_;refine zme (i:=1) (j:=7) rfl rfl ξ (λK d=>?_) (λK d=>?_)
  ·skip
   go_simp;(go_at_call 50;(with_reducible refine(Tb.point D.o.drew).mono ?_);rintro e v1 ⟨P,a,rfl,hv,hb⟩;have n:Below W.heap.size W v1:=It.bdrew0' hb;have z4:=zab n af;have bk:=cell_al (ob:=(.cells #[.int .i64 0,false,(),(),()] 68)) z4;have s:=un n;have av:=hv.form.2.1;have aw:=hv.form.2.2.1;have ax:nC<=a:=ω;have B:=un (show VecS v1 W.heap.size (P,nC,a) (ytf nC N A b cols)from(hv.cut nC U).base (Za _));clear hv;clear hb n);(try go_wp2_with fail);refine shutOn d λhHeld=>?_;clear d K;refine zaw [5,6] ?_;repeat refine tkL (hS:=hHeld) (h:=?_)
   refine zao ?_;refine zaB 7 (h:=λK d=>?_);go_simp;refine shutOn d λhHeld=>?_;clear d K;refine zay 8 (h:=λK d=>?_);go_simp;refine shutOff d ?_;clear d K;refine zaM (h:=?_);go_wp2;go_meet
   case rel=>exact⟨v1.heap.size,P,a,rfl,s.o.size,zal _ _ _,B.o.alloc _,s.o.alloc s.o.size _⟩
  skip
  go_simp;refine shutOn d λhHeld=>?_;clear d K;refine zaB 1 (h:=λK d=>?_);go_simp;(go_at_call 50;(first | (with_reducible refine(Tb.point (D.o.drew.alloc _)).mono ?_) | (with_reducible refine(Tb.point ((D.o.alloc _).drew)).mono ?_));rintro e v1 ⟨P,a,rfl,hv,hb⟩;have n:Below W.heap.size W v1:=((zap W 1).trans ((zae _ _).mono (Za _))).trans (hb.mono σ);have E:θ v1 W.heap.size #[.int .i64 0,false,(),(),()] 68:=(zad hb (zal W.drew #[.int .i64 0,false,(),(),()] 68));have z4:=zab n af;have I:=un E;have s:=un n;have av:=hv.form.2.1;have aw:=hv.form.2.2.1;have ax:nC<=a:=ω;have B:=un (show VecS v1 W.heap.size (P,nC,a) (ytf nC N A b cols)from(hv.cut nC U).base σ);clear hv;obtain⟨o0,aY,a7,a8,o1,a0,of1,a9,o2,a2,ba,bb,o3,a4,bc,bd,o4,a6,be,bf⟩:=bf5 E;clear hb n E);(try go_wp2_with fail);refine shutOn d λhHeld=>?_;clear d K;refine zaw [5,6] ?_;repeat refine tkL (hS:=hHeld) (h:=?_)
  refine zao ?_;refine zay 8 (h:=λK d=>?_);go_simp;refine shutOff d ?_;clear d K;refine zaM (h:=?_);go_wp2;go_meet;have u:=zqy I.o (.int .i64 1) false () () (P,nC,a)
  case rel=>exact⟨W.heap.size,P,a,rfl,Za _,zar _ (zar _ (zar _ (zar _ (zar _ I.o)))),B.o.tk u δ δ,(((((s.o.setCell (p:=⟨W.heap.size,0,none⟩) (Za _) _).setCell (p:=⟨W.heap.size,1,none⟩) (Za _) _).setCell (p:=⟨W.heap.size,2,none⟩) (Za _) _).setCell (p:=⟨W.heap.size,3,none⟩) (Za _) _).setCell (p:=⟨W.heap.size,4,none⟩) (Za _) _)⟩
 rename World=>wy
 obtain⟨ob,P,a,rfl,aV,T,f,l⟩:=hcut;refine μ8 T f l (zad l L.o) (zad l M.o) (HC.o.below l) (HR.o.below l) (y.o.trans ((l).mono y.o.size)) λO z aS ae ag aC aQ ah=>?_;obtain⟨bs,bp,bt,bq⟩:=bc2 ae.o;obtain⟨bH,bu,bz,bK,bI,bn,bQ,bC,bM,bE,b4,bU,cp,cc,ca,b1,cr,b9,cb,b2⟩:=bf5 ag.o;obtain⟨bZ,bX,cD,cx,b0,bY,cI,cy,b8,bS,cJ,cz,cs,cE,bi,bg,cW,cG,bj,bh⟩:=bf5 O.o;clear l f T;have am:=un (show(ytf nC N A b cols).length=nC from z.o.len.symm);have ao:=un (show Sm (ytf nC N A b cols)from λq F=>an.o q (Yh F));have al:=un (show cost.length=(ytf nC N A b cols).length by rw[am.o];exact ak.o.symm);have az:nC<=1000:=ω;go_wp2_with fail
 with_reducible refine(zPu C nC cC R r cR cost rows P nC a (ytf nC N A b cols) _ aC.o aQ.o (z.o.base (Zb _)) al.o az au.o ao.o).mono ?_
 rintro e w3 ⟨g2,A2,m2,c2,D2,md2,cd2,rfl,t,hb⟩;refine μ6 (zad hb ae.o) (zad hb ag.o) (zad hb O.o) (z.o.below hb) (show RatS w3 g2 (A2,m2,c2) (D2,md2,cd2) (dot cost (ytf nC N A b cols))from t) (ah.o.trans ((hb).mono ah.o.size)) λaE ai x aD HS aF=>?_;obtain⟨bV,bw,bW,bx⟩:=bc2 aE.o;obtain⟨aL,aG,cj,b5,aM,aH,ch,b6,aN,aI,ci,b7,aO,aK,cl,ce,aP,aJ,cn,cg⟩:=bf5 ai.o;obtain⟨cK,ct,cS,cN,cL,cu,cT,cO,cM,cw,cU,cQ,cV,cF,bm,cY,cX,cH,bl,cZ⟩:=bf5 x.o;clear t hb;go_wp2;refine Zh (v:=.agg #[.int .i64 1,g2,(A2,m2,c2),(D2,md2,cd2),(P,nC,a)]) (by simp[results,results73,go_sem,aL,aG,aM,aH,aN,aI,aO,aK,aP,aJ]) rfl ?_;have X:=TKeep.set (o:=1) (x.o) g2;have Y:=TKeep.set (o:=2) (zar (o:=1) g2 (x.o)) (A2,m2,c2);have Z:=TKeep.set (o:=3) (zar (o:=2) (A2,m2,c2) (zar (o:=1) g2 (x.o))) (D2,md2,cd2);have ay:θ (((w3.setCell ⟨ob,1,none⟩ g2).setCell ⟨ob,2,none⟩ (A2,m2,c2)).setCell ⟨ob,3,none⟩ (D2,md2,cd2)) (w.heap.size+1) #[.int .i64 0,false,(),(),()] 68:=by rw[ZE _ _ _ _ (by show w.heap.size+1≠ob;omega),ZE _ _ _ _ (by show w.heap.size+1≠ob;omega),ZE _ _ _ _ (by show w.heap.size+1≠ob;omega)];exact ai.o
 have u:=zqy ay (.int .i64 1) g2 (A2,m2,c2) (D2,md2,cd2) (P,nC,a);exact⟨g2,A2,m2,c2,D2,md2,cd2,P,a,rfl,((((HS.o.tk X δ).tk Y δ).tk Z δ).tk u δ),(((((aD.o.base aA).tk X δ δ).tk Y δ δ).tk Z δ δ).tk u δ δ),((((((((aF.o.setCell (p:=⟨ob,1,none⟩) (by show w.heap.size<=ob;omega) _).setCell (p:=⟨ob,2,none⟩) (by show w.heap.size<=ob;omega) _).setCell (p:=⟨ob,3,none⟩) (by show w.heap.size<=ob;omega) _).setCell (p:=⟨w.heap.size+1,0,none⟩) (by show w.heap.size<=w.heap.size+1;omega) _).setCell (p:=⟨w.heap.size+1,1,none⟩) (by show w.heap.size<=w.heap.size+1;omega) _).setCell (p:=⟨w.heap.size+1,2,none⟩) (by show w.heap.size<=w.heap.size+1;omega) _).setCell (p:=⟨w.heap.size+1,3,none⟩) (by show w.heap.size<=w.heap.size+1;omega) _).setCell (p:=⟨w.heap.size+1,4,none⟩) (by show w.heap.size<=w.heap.size+1;omega) _)⟩
end Ca
end
section
variable {W0 w:World} {H q:Nat} {rA:OA} {rc:Nat} {lA:List Value} {bA:OA} {bc_:Nat} {kA:OA} {kc:Nat} {eA:OA} {ec m N S own:Nat} {A:List (List Rat)} {b c:List Rat} {left:List Int}
  {tA:OA} {tc:Nat} {cols:List Nat}
theorem ytv{f:Nat}{cs:List Nat}(h:pivs (zBX N A b (zdL N k) may) (B-n) cs=r) :
  (r.err=true->ys2 N A b B (ys5 N (f+1) k) may cs n=⟨r.cols,n+r.n,true⟩)/\(r.err=false->ys2 N A b B (ys5 N (f+1) k) may cs n=ys2 N A b B (ys5 N f (k+1)) (ys7 (zaC N A r.cols (zdL N k)) may) r.cols (n+r.n)):=by
 constructor;intro e
 conv=>lhs;unfold ys5 ys2
 simp only[h,e,if_true];intro e
 conv=>lhs;unfold ys5 ys2
 simp only[h,e,XI,if_false]
def ytM (W0 w:World) (H q:Nat) (rA:OA) (rc:Nat) (lA:List Value) (bA:OA) (bc_:Nat) (kA:OA) (kc:Nat) (eA:OA) (ec m N S own:Nat) (A:List (List Rat)) (b c:List Rat) (left:List Int) (tA:OA) (tc B:Nat) (l:LexOut) (e:Ending) (w':World):Prop :=
  ∃ ev,e = .returned (.tuple #[(l.n:Int),ev]) /\ ((l.err = false /\ ev = .nilIface) \/ (l.err = true /\ ∃ fb num:Nat,ev = .iface 239 (.pointer (some ⟨fb,0,none⟩)) /\ num <= B /\ θ w' fb #[.string zve, .int .i64 (num:Int), .iface 93 (.int .i64 180)] 241)) /\
    l.n<=B/\zhi W0 w' H q rA rc lA bA bc_ kA kc eA ec m N S own A b c left tA tc l.cols/\Below H w w'/\Kept TC (Value.slice tA m tc).ownBlock w w'
namespace Ca
theorem least(h:zhi W0 w H q rA rc lA bA bc_ kA kc eA ec m N S own A b c left tA tc cols)(C:OA)(cC W:Nat)(t:List Rat)(Y:VecS w W (C,N,cC) t)(zC:∀x∈t,mw x<=S)(M:OA)(s o:Nat)(may:List Bool)(hm:BoolsS w o (M,N,s) may)(Z:H<=o)(ab:zor m S<=LIM)(f B:Nat)(hf:f<=N)(X:B<=1000000) :
  Calls prog 72 #[.pointer (some ⟨q,0,none⟩),(C,N,cC),(M,N,s),(f:Int),(B:Int)] w
   (ytM W0 w H q rA rc lA bA bc_ kA kc eA ec m N S own A b c left tA tc B (ys2 N A b B (ys5 N f 0) (ys7 (zaC N A cols t) may) cols 0)):=by
 refine μ9 h Y zC hm ab Z hf X h.std.hS λHP HC aD HM z J g ak P=>?_;have aF:=h.std.hN;have aI:(f:Int)<=64:=ω;clear h Y zC hm ab Z hf X;go_enter func72,ntmps72;go_wp2_with fail
 refine(keep HP.o C cC W t HC.o aD.o M s o may HM.o J.o z.o).mono ?_;rintro e v1 ⟨rfl,hm,d,a,hk⟩;refine μ4 hm d a hk λau az ah an=>?_;clear hm d a hk;obtain⟨lo,F⟩:∃lo,ys2 N A b B (ys5 N f 0) (ys7 (zaC N A cols t) may) cols 0=lo:=⟨_,rfl⟩
 have l:=un F;rw[F];generalize ys7 (zaC N A cols t) may=may1 at *
 clear F;go_wp2_with fail
 go_loopw [12,24] (λnv i wr=>∃(k n:Nat) (cs:List Nat) (mk:List Bool),i=.int .i64 k/\nv=.int .i64 n/\k<=f/\n<=B/\ys2 N A b B (ys5 N (f-k) k) mk cs n=lo/\BoolsS wr o (M,N,s) mk /\
   zhi W0 wr H q rA rc lA bA bc_ kA kc eA ec m N S own A b c left tA tc cs/\Below H w wr/\Kept TC (Value.slice tA m tc).ownBlock w wr)
  (λ_ i _=>f-(intOf i).toNat)
 case atStart=>exact⟨0,0,cols,may1,rfl,rfl,Zb _,Zb _,l.o,au.o,az.o,ah.o,an.o⟩
 obtain⟨k,n,cs,mk,rfl,rfl,hk,hn,hl,hm,d,a,j⟩:=hrel;refine μ6 hl hm d a j hn λu ax D G K p=>?_;clear hl hm d a j hn;by_cases aL:k<f
 ·have aJ:(0:Int)<=(k:Int):=Zf _;have aK:(k:Int)<(f:Int):=ω
  have aM:(0:Int)<=(n:Int):=Zf _;have E:k<N:=by have:=g.o;omega
  go_wp2_with fail
  refine(Vc.unit N k aF E _).mono ?_;rintro e v2 ⟨U,nU,cU,rfl,hv,a⟩;obtain rfl:nU=N:=by rw[hv.len,zfM]
  refine μ5 hv (D.o.below a) (ax.o.below a) (G.o.trans (a.mono D.o.hle)) (K.o.below a) λV aA O ai ao=>?_;clear hv a;have af:=p.o;have aa:=ak.o;go_wp2_with fail
  rw[show(B:Int)-(n:Int)=((B-n:Nat):Int)by omega];refine(Pr.prun aA.o U cU _ (zdL nU k) V.o (zqF P.o E) M nU s o mk O.o z.o ((B-n:Nat):Int) ω).mono ?_;rintro e v3 ⟨ev,rfl,hev,d,a,j⟩;rw[show(((B-n:Nat):Int)).toNat=B-n from Ym _]at hev d ⊢;obtain⟨r,hr⟩:∃r,pivs (zBX nU A b (zdL nU k) mk) (B-n) cs=r:=⟨_,rfl⟩
  have Q:=un (ytv (f:=f-(k+1)) hr);have v:=un (show r.n<=B-n by rw[<-hr];exact zLj _ _ _);rw[hr]at hev d ⊢;rw[show f-k=f-(k+1)+1 by omega]at u;refine μ5 d (O.o.kept j δ) (j.vec δ δ V.o) (ai.o.trans a) (ao.o.trans (j.more δ)) λT av aC I L=>?_;clear hr d a j;rcases hev with ⟨y,rfl⟩ | ⟨y,fb,rfl,ac⟩
  ·have aq:=un ((Q.o.2 y).symm.trans u.o);have aG:n+r.n<=1000000:=by have:=v.o;have:=p.o;omega
   clear y af aa;go_wp2_with fail
   refine(keep T.o U cU _ (zdL nU k) aC.o (zqF P.o E) M s o mk av.o J.o z.o).mono ?_;rintro e v4 ⟨rfl,hm,d,a,j⟩;refine μ4 hm d (I.o.trans a) (L.o.trans j) λaw aB aj ap=>?_;clear hm d a j;go_wp2;go_roundw
   case rel=>exact⟨k+1,n+r.n,r.cols,_,by go_num,by go_num,ω,by have:=p.o;have:=v.o;omega,aq.o,aw.o,aB.o,aj.o,ap.o⟩
   case measure=>simp[intOf];omega
  have g:=un (show lo=⟨r.cols,n+r.n,true⟩from((Q.o.1 y).symm.trans u.o).symm);have am:=un ac;have aG:n+r.n<=1000000:=by have:=v.o;have:=p.o;omega
  clear y ac af aa;go_wp2;go_ret2
  exact⟨_,by rw[l.o,g.o];rfl,by rw[l.o,g.o];exact .inr ⟨rfl,fb,r.n,rfl,by have:=v.o;omega,am.o⟩,by rw[l.o,g.o];have:=p.o;have:=v.o;show n+r.n<=B;omega,by rw[l.o,g.o];exact T.o,I.o,L.o⟩
 obtain rfl:f=k:=ω;rw[Xq]at u;have g:=un (show lo=⟨cs,n,false⟩from u.o.symm);go_wp2;go_ret2
 exact⟨_,by rw[l.o,g.o];rfl,by rw[l.o,g.o];exact .inl ⟨rfl,rfl⟩,by rw[l.o,g.o];exact p.o,by rw[l.o,g.o];exact D.o,G.o,K.o⟩
end Ca
end
open Pr (zYk pfeasible pmay prun)
theorem ytr{a:Nat}{s:RunOut}{d:(List Nat × Nat) × Bool}{l:LexOut}(hN:N+m=a)(hr:pivs (zBX a (zt0 A b) (zwh b) (zJG N m) (zKc N m)) B (zKa N m)=r)
  (k:zSz N a (zt0 A b) (B-r.n) m 0 (r.cols,0)=d) (p:r.n+d.1.2=n) (t:pivs (zBX a (zt0 A b) (zwh b) (zKb m c) (zKc N m)) (B-n) d.1.1=s)
  (o:ys2 a (zt0 A b) (zwh b) (B-(n+s.n)) (ys5 a own 0) (ys7 (zaC a (zt0 A b) s.cols (zKb m c)) (zKc N m)) s.cols 0=l) :
  (r.err=true->ys3 N m own A b c B=.spent r.n)/\(r.err=false->0<zSB N m A b r.cols->ys3 N m own A b c B=.none r.n) /\
  (r.err=false->¬0<zSB N m A b r.cols->(d.2=true->ys3 N m own A b c B=.spent n)/\(d.2=false->(s.err=true->ys3 N m own A b c B=.spent (n+s.n)) /\
   (∀j,s.err=false->s.at_=some j->ys3 N m own A b c B=.falls (n+s.n))/\(s.err=false->s.at_=none->ys3 N m own A b c B=yth (n+s.n) s.cols l))):=by
 subst hN p;unfold ys3;simp only[hr,k,t,o];exact⟨λh=>by rw[if_pos h],λh e=>by rw[h,if_pos e];rfl,λh e=>⟨λf=>by rw[h,if_neg e,if_pos f];rfl,λf=>⟨λg=>by rw[h,if_neg e,f,if_pos g];rfl,λj g i=>by rw[h,if_neg e,f,g,i];rfl,λg i=>by rw[h,if_neg e,f,g,i];rfl⟩⟩⟩
namespace Ca
theorem solve(S:Nat)(C:OA)(nC cC:Nat)(R:OA)(m cR:Nat)(cost:List Rat)(rows:List PRow)(N a B:Nat)(w:World)(hc:VecS w 0 (C,nC,cC) cost)(hr:RowsS w 0 (R,m,cR) rows)(hg:GoodS S nC m cost rows)(hN:nC+cnt rows m=N)(ae:N+m=a)(x:B<=1000000) :
  Calls prog 20 #[.agg #[(C,nC,cC),(R,m,cR)],(B:Int)] w (ytb w nC a (zt0 (zc3 rows) (zg8 rows)) (zwh (zg8 rows)) cost B (ytJ N) (ys3 N m nC (zc3 rows) (zg8 rows) (zjD cost rows) B)):=by
 refine μ5 hc.len hr.len hg hN ae λjz jA HG HN U=>?_;have jG:=zgO rows m;have jI:=hg.hr;have jF:=hg.hc;have bb:a<=64:=ω;have jJ:m<=64:=ω;refine μ9 (show Rows nC rows from λp z=>⟨(hg.rw_ p z).1,λq hq=>Zl ((hg.rw_ p z).2.1 q hq) hg.hS,Zl (hg.rw_ p z).2.2 hg.hS⟩) hg.cap hg.sb (show zsn a N=zKc N m by rw[<-ae,zUB]) (show Sm cost from λq hq=>Zl (hg.sc q hq) hg.hS) (show 8*S+8<=LIM by rw[zaP];have:=hg.hS;omega) x (show Rect m N (zc3 rows)by have:=zlk (n:=nC) (rows:=rows) λk hk=>(hg.rw_ _ (Zz (zaO hk))).1;rw[<-hr.len,hN]at this;exact this) (show(zg8 rows).length=m by rw[zxG,<-hr.len]) λbX aB a5 bQ bZ H8 aZ bV bO=>?_;obtain⟨r,ag⟩:∃r,pivs (zBX a (zt0 (zc3 rows) (zg8 rows)) (zwh (zg8 rows)) (zJG N m) (zKc N m)) B (zKa N m)=r:=⟨_,rfl⟩
 obtain⟨d,af⟩:∃d,zSz N a (zt0 (zc3 rows) (zg8 rows)) (B-r.n) m 0 (r.cols,0)=d:=⟨_,rfl⟩
 obtain⟨n,T⟩:∃n,r.n+d.1.2=n:=⟨_,rfl⟩
 obtain⟨s,ah⟩:∃s,pivs (zBX a (zt0 (zc3 rows) (zg8 rows)) (zwh (zg8 rows)) (zKb m (zjD cost rows)) (zKc N m)) (B-n) d.1.1=s:=⟨_,rfl⟩
 obtain⟨l,aG⟩:∃l,ys2 a (zt0 (zc3 rows) (zg8 rows)) (zwh (zg8 rows)) (B-(n+s.n)) (ys5 a nC 0) (ys7 (zaC a (zt0 (zc3 rows) (zg8 rows)) s.cols (zKb m (zjD cost rows))) (zKc N m)) s.cols 0=l:=⟨_,rfl⟩
 refine μ8 (ytr ae ag af T ah aG) ag af ah aG T (show r.n<=B by rw[<-ag];exact zLj _ _ _) (show d.1.2<=B-r.n by have h:=zSH m 0 (r.cols,0) (own:=N) (N:=a) (A:=zt0 (zc3 rows) (zg8 rows)) (B:=B-r.n);rw[af]at h;exact h.2 (Zb _)) λab bU bI bY bN bS bW bJ=>?_;have bR:=un (show n<=B by have:=bW.o;have:=bJ.o;omega);have ac:=un (show s.n<=B-n by rw[<-ah];exact zLj _ _ _);generalize hoo:ys3 N m nC (zc3 rows) (zg8 rows) (zjD cost rows) B=o at *
 clear hg hN ae x ag af ah T aG hoo;obtain⟨W,K⟩:∃W,((w.alloc (.cells #[(C,nC,cC),(R,m,cR)] 33)).alloc (.cells #[.int .i64 0,false,(),(),()] 68))=W:=⟨_,rfl⟩
 refine μ6 (show θ W w.heap.size #[(C,nC,cC),(R,m,cR)] 33by rw[<-K];exact zak (zam σ)) (show θ W (w.heap.size+1) #[.int .i64 0,false,(),(),()] 68by rw[<-K];exact zam σ) (show Below w w W by rw[<-K];exact(zae w _).alloc σ _) (show w.heap.size+2<=W.heap.size by rw[<-K];simp) (show VecS W 0 (C,nC,cC) cost by rw[<-K];exact((hc).alloc _).alloc _) (show RowsS W 0 (R,m,cR) rows by rw[<-K];exact((hr).alloc _).alloc _) λa8 a9 BB HZ HC HR=>?_;obtain⟨fu,fC,fv,fp⟩:=bc2 a8.o;obtain⟨fS,fO,gg,fK,fM,fX,f0,fG,f5,ga,gQ,gu,i7,ix,io,hy,ja,iC,ir,hD⟩:=bf5 a9.o;clear hc hr;go_enter func20,ntmps20;go_wp2_with fail
 clear K;with_reducible refine(Pb.standardN S HG.o.h1 C nC cC R m cR cost rows N HN.o _ HC.o HR.o ω ω bX.o HG.o.kd HG.o.sc (λp z=>(HG.o.rw_ p z).2)).mono ?_
 rintro e w1 ⟨rA,rc,lA,bA,bc_,kA,kc,eA,ec,rfl,hst,hb⟩;refine μ6 (zad hb a8.o) (zad hb a9.o) (HC.o.below hb) (HR.o.below hb) (hst) (BB.o.trans ((hb).mono BB.o.size)) λbs bp jw i0 b1 br=>?_;obtain⟨fs,fA,ft,fB⟩:=bc2 bs.o;obtain⟨fP,fy,gb,fI,fT,fo,f7,fN,fH,fY,gn,f9,i8,iy,ip,hA,jb,iD,iu,hE⟩:=bf5 bp.o;clear hst hb;have Q:=zae w1 (.cells #[(rA,m,rc),(N:Int),(bA,m,bc_),(kA,N,kc),(nC:Int),(eA,m,ec)] 114);refine μ6 (zad Q bs.o) (zad Q bp.o) (jw.o.below Q) (i0.o.below Q) (b1.o.below Q) (br.o.trans ((Q).mono br.o.size)) λbq bt dy jv jp bu=>?_;obtain⟨fw,fq,fx,fr⟩:=bc2 bq.o;obtain⟨fQ,fz,fF,fU,fR,fn,gd,fJ,fZ,fL,gR,gv,iz,hw,hs,gO,iE,g6,ht,gP⟩:=bf5 bt.o;have KS:=un (zal w1 #[(rA,m,rc),(N:Int),(bA,m,bc_),(kA,N,kc),(nC:Int),(eA,m,ec)] 114);obtain⟨gC,gy,gD,gz,g4,gj,iK,jd,jr,jf,jt,jh⟩:=bc6 KS.o;go_wp2_with fail
 with_reducible refine(zYk rA rc lA bA bc_ kA kc eA ec m N a S nC (zc3 rows) (zg8 rows) (zjD cost rows) (zca nC rows m) _ jp.o bb U.o (zsk _ _ _) H8.o).mono ?_
 rintro e X ⟨rA2,rc2,lA2,bA2,bz2,kA2,kc2,eA2,ec2,gA,gc,rfl,hst,hz,hb⟩;refine μ8 (zad hb bq.o) (zad hb bt.o) (zad hb KS.o) (dy.o.below hb) (jv.o.below hb) (show StdP X rA2 rc2 lA2 bA2 bz2 kA2 kc2 eA2 ec2 m a S (zt0 (zc3 rows) (zg8 rows)) (zwh (zg8 rows)) (zKb m (zjD cost rows)) (zca nC rows m)from hst) (show IntsZ X 0 (gA,m,gc) ((zg8 rows).map sgI)from hz) (bu.o.trans ((hb).mono bu.o.size)) λbv bz bC dz dx b0 bK bw=>?_;obtain⟨gw,fD,gx,fE⟩:=bc2 bv.o;obtain⟨hJ,gF,ie,gX,hK,gG,hQ,gY,hX,g0,hR,gZ,iA,hx,iq,hC,iF,g7,iv,hG⟩:=bf5 bz.o;obtain⟨jj,iU,jk,iV,jl,iW,jq,je,js,jg,ju,ji⟩:=bc6 bC.o;clear hst hz hb;have F:=zae X (.cells #[(rA2,m,rc2),(a:Int),(bA2,m,bz2),(kA2,a,kc2),(nC:Int),(eA2,m,ec2),(gA,m,gc),(N:Int)] 118);refine μ8 (zad F bv.o) (zad F bz.o) (zad F bC.o) (dz.o.below F) (dx.o.below F) (b0.o.below F) (bK.o.below F) (bw.o.trans ((F).mono bw.o.size)) λal am au dF jx aV e5 O=>?_;obtain⟨ge,fV,gf,fW⟩:=bc2 al.o;obtain⟨gr,f3,gl,f6,gs,f4,gm,f8,hL,gH,gM,gB,hZ,g1,gV,gt,h0,g3,gW,gh⟩:=bf5 am.o;obtain⟨hM,gI,hO,gJ,h3,g5,iL,hd,il,hf,im,hh⟩:=bc6 au.o;have KT:=un (zal X #[(rA2,m,rc2),(a:Int),(bA2,m,bz2),(kA2,a,kc2),(nC:Int),(eA2,m,ec2),(gA,m,gc),(N:Int)] 118);obtain⟨dJ,dA,dK,dB,dG,dC,dH,dD,dI,dE,e6,eV,e8,eX,fa,eO⟩:=bc8 KT.o;clear fu fC fv fp fS fO gg fK fM fX f0 fG f5 ga gQ gu i7 ix io hy ja iC ir hD fs fA ft fB fP fy gb fI fT fo f7 fN fH fY gn f9 i8 iy ip hA jb iD iu hE fw fq fx fr fQ fz fF fU fR fn gd fJ fZ fL gR gv iz hw hs gO iE g6 ht gP gC gy gD gz g4 gj iK jd jr jf jt jh gw fD gx fE hJ gF ie gX hK gG hQ gY hX g0 hR gZ iA hx iq hC iF g7 iv hG jj iU jk iV jl iW jq je js jg ju ji;go_wp2_with fail
 have jN:=HZ.o;have bH:=un O.o;have cb:=bH.o.size;generalize hwS:(X.alloc (.cells #[(rA2,m,rc2),(a:Int),(bA2,m,bz2),(kA2,a,kc2),(nC:Int),(eA2,m,ec2),(gA,m,gc),(N:Int)] 118))=wS at *
 clear hwS;with_reducible refine(pfeasible rA2 rc2 bA2 bz2 kA2 kc2 eA2 ec2 gA gc m a nC N lA2 S (zc3 rows) (zg8 rows) (zKb m (zjD cost rows)) (zca nC rows m) 0 _ aV.o e5.o U.o bV.o bO.o aB.o a5.o B aZ.o).mono ?_
 rintro e w3 ⟨x,h⟩;rw[bU.o,bI.o,bS.o]at h;refine μ7 x (zad x al.o) (zad x am.o) (zad x au.o) (zad x KT.o) (aV.o.below x) (O.o.trans ((x).mono O.o.size)) λaY bx Z bB bn c5 aW=>?_;obtain⟨gp,f1,gq,f2⟩:=bc2 bx.o;obtain⟨av,an,hj,gK,aw,ao,hl,gL,ax,ap,ho,gN,ay,aq,hU,gT,az,ar,hV,gU⟩:=bf5 Z.o;obtain⟨iH,g8,iI,g9,iJ,ha,iR,ia,iS,ib,iT,ic⟩:=bc6 bB.o;obtain⟨eZ,eQ,e0,eR,e1,eS,e2,eT,e3,eU,e7,eW,e9,eY,fc,eP⟩:=bc8 bn.o;clear x;rcases h with ⟨f,ev,rfl,u,num,rfl,L,y⟩ | ⟨f,G,Y,cY,rfl,hY⟩ | ⟨f,G,V,ev,rfl,u,num,rfl,L,y⟩ | ⟨f,G,V,wn,q,tA,tc,rfl,hT,bc,b8⟩
 ·refine μ3 (ab.o.1 f) y L λi I J=>?_;clear f y L;go_wp2;refine Zh (v:=.tuple #[.agg #[.int .i64 0,false,(),(),()],.int .i64 (r.n:Int),(),.iface 239 (.pointer (some ⟨u,0,none⟩))]) (by simp[results,results20,go_sem,av,an,aw,ao,ax,ap,ay,aq,az,ar]) rfl ?_;have t:=zqy Z.o (.int .i64 0) false () () ();rw[i.o]
  exact⟨bsc (bsc (bsc (bsc (bsc aW.o)))),u,num,rfl,J.o,t.blk I.o δ⟩
 ·have i:=un (ab.o.2.1 f G);clear f G hY;go_wp2;refine Zh (v:=.tuple #[.agg #[.int .i64 2,false,(),(),()],.int .i64 (r.n:Int),(),.nilIface]) (by simp[results,results20,go_sem,av,an,aw,ao,ax,ap,ay,aq,az,ar]) rfl ?_;have t:=zqy Z.o (.int .i64 2) false () () ();rw[i.o];exact⟨bsc (bsc (bsc (bsc (bsc aW.o)))),rfl⟩
 ·refine μ3 ((ab.o.2.2 f G).1 V) y L λi I J=>?_;clear f G V y L;go_wp2;refine Zh (v:=.tuple #[.agg #[.int .i64 0,false,(),(),()],.int .i64 (n:Int),(),.iface 239 (.pointer (some ⟨u,0,none⟩))]) (by simp[results,results20,go_sem,av,an,aw,ao,ax,ap,ay,aq,az,ar]) rfl ?_;have t:=zqy Z.o (.int .i64 0) false () () ();rw[i.o]
  exact⟨bsc (bsc (bsc (bsc (bsc aW.o)))),u,num,rfl,J.o,t.blk I.o δ⟩
 refine μ4 ((ab.o.2.2 f G).2 V) hT bc hT.hle λaD HT a7 bL=>?_;clear f G V hT bc b8;clear ge fV gf fW gr f3 gl f6 gs f4 gm f8 hL gH gM gB hZ g1 gV gt h0 g3 gW gh hM gI hO gJ h3 g5 iL hd il hf im hh dJ dA dK dB dG dC dH dD dI dE e6 eV e8 eX fa eO;have jK:=bR.o;have jE:=aZ.o;go_wp2_with fail
 with_reducible refine(pmay rA2 rc2 bA2 bz2 kA2 kc2 eA2 ec2 gA gc m a nC N _ (by have:=U.o;omega) bb).mono ?_
 rintro e w4 ⟨M,cM,rfl,hm,hb⟩;refine μ7 (zad hb bx.o) (zad hb Z.o) (zad hb bB.o) (zad hb bn.o) (c5.o.below hb) (HT.o.below hb) (show BoolsS w4 w3 (M,a,cM) (zKc N m)from(by have h:=hm;rw[bQ.o]at h;exact h)) λgi h4 hu c4 bo c6 HM=>?_;obtain⟨hH,gS,hI,gE⟩:=bc2 gi.o;obtain⟨iM,h5,i1,ig,iN,h6,i2,ih,i6,iw,i3,ii,i9,iB,i4,ij,jc,iG,i5,ik⟩:=bf5 h4.o;obtain⟨iO,h7,iP,h8,iQ,h9,jm,iX,jn,iY,jo,iZ⟩:=bc6 hu.o;obtain⟨dk,da,dl,db,dm,dc,dn,dd,dp,c7,dq,c8,dr,c9,ds,dt⟩:=bc8 c4.o;have bF:=un (aY.o.trans (hb.mono aY.o.size));clear hm hb;go_wp2_with fail
 rw[show(B:Int)-(n:Int)=((B-n:Nat):Int)by omega];with_reducible refine(prun c6.o kA2 kc2 0 (zKb m (zjD cost rows)) bo.o.C bo.o.zc M a cM w3.heap.size (zKc N m) HM.o aB.o ((B-n:Nat):Int) ω).mono ?_
 rintro e w5 ⟨ev,rfl,hev,hT5,hb5,hk5⟩;rw[show(((B-n:Nat):Int)).toNat=B-n from Ym _,bY.o]at hev hT5 ⊢;have a6:=un hT5;have bP:=un (HM.o.kept hk5 δ);have E:Below wS wS w5:=bF.o.trans (hb5.mono a7.o);have aA:=un E;have b4:=un (show ∀g,(Value.slice tA m tc).ownBlock=some g->g<w5.heap.size by intro g hg;obtain⟨_,_,_,hP⟩:=hT5;exact(hP.colsI.own.lt g hg).2);clear hT5 hb5 hk5;refine μ6 (zad E al.o) (zad E am.o) (zad E au.o) (zad E KT.o) (aV.o.below E) (O.o.trans ((E).mono O.o.size)) λbg aj bh bk ci bf=>?_;obtain⟨ef,ej,eg,ek⟩:=bc2 bg.o;obtain⟨aQ,aT,cV,fd,aR,aU,cX,ff,aN,aM,c0,fh,aO,aK,cQ,fj,aP,aL,cT,fl⟩:=bf5 aj.o;obtain⟨d8,en,d9,eo,ea,ep,eq,eb,er,ed,es,ee⟩:=bc6 bh.o;obtain⟨et,eB,ew,eD,ey,eF,cj,cm,cl,co,cy,cq,cA,cs,cD,cu⟩:=bc8 bk.o;clear E;clear gp f1 gq f2 av an hj gK aw ao hl gL ax ap ho gN ay aq hU gT az ar hV gU iH g8 iI g9 iJ ha iR ia iS ib iT ic eZ eQ e0 eR e1 eS e2 eT e3 eU e7 eW e9 eY fc eP hH gS hI gE iM h5 i1 ig iN h6 i2 ih i6 iw i3 ii i9 iB i4 ij jc iG i5 ik iO h7 iP h8 iQ h9 jm iX jn iY jo iZ dk da dl db dm dc dn dd dp c7 dq c8 dr c9 ds dt;have jL:n+s.n<=1000000:=by have:=ac.o;omega
 rcases hev with ⟨f,rfl⟩ | ⟨f,u,rfl,y⟩
 ·cases hat:s.at_ with
  | some j =>
   have z:zbh (some j)=(j:Int):=rfl;rw[z];have i:=un (aD.o.2.1 j f hat);have jH:(0:Int)<=(j:Int):=Zf _;clear f hat z;go_wp2;refine Zh (v:=.tuple #[.agg #[.int .i64 3,false,(),(),()],.int .i64 ((n+s.n:Nat):Int),(),.nilIface]) (by simp[results,results20,go_sem,aQ,aT,aR,aU,aN,aM,aO,aK,aP,aL]) rfl ?_;have t:=zqy aj.o (.int .i64 3) false () () ();rw[i.o];exact⟨bsc (bsc (bsc (bsc (bsc bf.o)))),rfl⟩
  | none =>
   have z:zbh none = -1:=rfl;rw[z];have a3:=un (aD.o.2.2 f hat);clear f hat z;go_wp2_with fail
   with_reducible refine(yui a6.o N).mono ?_
   rintro e w6 ⟨Bo,ko,cBo,rfl,hi,hb⟩;refine μ8 (zad hb bg.o) (zad hb aj.o) (zad hb bh.o) (zad hb bk.o) (ci.o.below hb) (a6.o.below hb) (bP.o.below hb) (hi) λdL dM dN eH be cg ch HI=>?_;obtain⟨d2,dS,d3,dT⟩:=bc2 dL.o;obtain⟨d4,dU,cW,fe,d5,dV,cZ,fg,de,cN,cO,fi,dg,cG,cS,fk,di,cI,cU,fm⟩:=bf5 dM.o;obtain⟨d6,dW,d7,dX,dO,dY,dP,dZ,dQ,d0,dR,d1⟩:=bc6 dN.o;obtain⟨eu,eC,ex,eE,ez,eG,ck,cn,cx,cp,cz,cr,cB,ct,cE,cv⟩:=bc8 eH.o;have bG:=un (aA.o.trans (hb.mono aA.o.size));have jD:=hb.size;clear hi hb;go_wp2_with fail
   rw[show(B:Int)-((n:Int)+(s.n:Int))=((B-(n+s.n):Nat):Int)by have:=ac.o;omega];with_reducible refine(least cg.o kA2 kc2 0 (zKb m (zjD cost rows)) be.o.C be.o.zc M cM w3.heap.size (zKc N m) ch.o bL.o aB.o nC (B-(n+s.n)) (by have:=HN.o;have:=U.o;omega) ω).mono ?_
   rintro e w7 ⟨ev,rfl,hev,hln,hT7,hb7,hk7⟩;rw[bN.o]at hev hln hT7 ⊢;have b3:=un hT7;have bM:=un (hk7.ints δ HI.o λg hg e=>by have h1:=(HI.o.own.lt g hg).1;have h2:=b4.o g e.symm;omega);have D:Below wS wS w7:=bG.o.trans (hb7.mono a7.o);have jy:=un D;have jM:n+s.n+l.n<=1000000:=by have:=ac.o;omega
   clear hT7 hb7 hk7 hln;refine μ7 (zad D al.o) (zad D am.o) (zad D au.o) (zad D KT.o) (dF.o.below D) (jx.o.below D) (O.o.trans ((D).mono O.o.size)) λbi aS bj bm dw ce ak=>?_;obtain⟨kO,kQ,kP,kR⟩:=bc2 bi.o;obtain⟨eh,el,k4,kY,ei,em,k5,kZ,eI,eL,k6,k0,eJ,eM,k7,k2,eK,eN,k8,k3⟩:=bf5 aS.o;obtain⟨kI,kS,kJ,kT,kU,kK,kV,kL,kW,kM,kX,kN⟩:=bc6 bj.o;obtain⟨kw,kq,kx,kr,ky,ks,kz,ki,kt,kj,ku,kk,kv,kl,kB,km⟩:=bc8 bm.o;clear D;clear ef ej eg ek aQ aT cV fd aR aU cX ff aN aM c0 fh aO aK cQ fj aP aL cT fl d8 en d9 eo ea ep eq eb er ed es ee et eB ew eD ey eF cj cm cl co cy cq cA cs cD cu d2 dS d3 dT d4 dU cW fe d5 dV cZ fg de cN cO fi dg cG cS fk di cI cU fm d6 dW d7 dX dO dY dP dZ dQ d0 dR d1 eu eC ex eE ez eG ck cn cx cp cz cr cB ct cE cv;rcases hev with ⟨f,rfl⟩ | ⟨f,u,num,rfl,L,y⟩
   ·have i:=un (show o=.best s.cols l.cols (n+s.n+l.n)from a3.o.trans (by unfold yth;rw[f];rfl));clear f;go_wp2_with fail
    with_reducible refine(answer b3.o C nC cC R m cR cost rows dw.o ce.o (by have:=HN.o;have:=U.o;omega) bZ.o a5.o).mono ?_
    rintro e w8 ⟨g2,A2,m2,c2,D2,md2,cd2,P,cP,rfl,T,hv,hb⟩;refine μ8 (zad hb bi.o) (zad hb aS.o) (zad hb bj.o) (zad hb bm.o) (bM.o.below hb) (show RatS w8 g2 (A2,m2,c2) (D2,md2,cd2) (dot cost (ytf nC a (zt0 (zc3 rows) (zg8 rows)) (zwh (zg8 rows)) l.cols))from T) (show VecS w8 w7 (P,nC,cP) (ytf nC a (zt0 (zc3 rows) (zg8 rows)) (zwh (zg8 rows)) l.cols)from hv) (ak.o.trans ((hb).mono ak.o.size)) λe4 bl du cf cw HA bT dv=>?_;obtain⟨k9,kb,la,ke⟩:=bc2 e4.o;obtain⟨c1,cK,kn,lb,c3,cL,kp,lc,df,cF,kf,ld,dh,cH,kg,le,dj,cJ,kh,lf⟩:=bf5 bl.o;obtain⟨kF,kD,kG,kE,kH,kC,jV,jY,jW,jZ,jX,j0⟩:=bc6 du.o;obtain⟨jP,jS,jQ,jT,jR,jU,j6,j1,j7,j2,j8,j3,j9,j4,ka,j5⟩:=bc8 cf.o;clear T hv hb;have ca:w.heap.size<=w7.heap.size:=(ak).o.size;have b9:w.heap.size<=w5.heap.size:=Zl cb aA.o.size;go_wp2;refine Zh (v:=.tuple #[.agg #[.int .i64 1,g2,(A2,m2,c2),(D2,md2,cd2),(P,nC,cP)],.int .i64 ((n+s.n+l.n:Nat):Int),(Bo,ko,cBo),.nilIface]) (by simp[results,results20,go_sem,c1,cK,c3,cL,df,cF,dh,cH,dj,cJ]) rfl ?_;have t:=zqy bl.o (.int .i64 1) g2 (A2,m2,c2) (D2,md2,cd2) (P,nC,cP);rw[i.o];exact⟨bsc (bsc (bsc (bsc (bsc dv.o)))),g2,A2,m2,c2,D2,md2,cd2,P,cP,Bo,ko,cBo,rfl,HA.o.tk t δ,(bT.o.base ca).tk t δ δ,(cw.o.base b9).tk t δ⟩
   refine μ3 (show o=.spent (n+s.n+l.n)from a3.o.trans (by unfold yth;rw[if_pos f])) y (show num<=B by omega) λi I J=>?_;clear f y L;go_wp2;refine Zh (v:=.tuple #[.agg #[.int .i64 0,false,(),(),()],.int .i64 ((n+s.n+l.n:Nat):Int),(),.iface 239 (.pointer (some ⟨u,0,none⟩))]) (by simp[results,results20,go_sem,eh,el,ei,em,eI,eL,eJ,eM,eK,eN]) rfl ?_;have t:=zqy aS.o (.int .i64 0) false () () ();rw[i.o];exact⟨bsc (bsc (bsc (bsc (bsc ak.o)))),u,num,rfl,J.o,t.blk I.o δ⟩
 refine μ3 (aD.o.1 f) y (show s.n<=B by have:=ac.o;omega) λi I J=>?_;clear f y;go_wp2;refine Zh (v:=.tuple #[.agg #[.int .i64 0,false,(),(),()],.int .i64 ((n+s.n:Nat):Int),(),.iface 239 (.pointer (some ⟨u,0,none⟩))]) (by simp[results,results20,go_sem,aQ,aT,aR,aU,aN,aM,aO,aK,aP,aL]) rfl ?_;have t:=zqy aj.o (.int .i64 0) false () () ();rw[i.o];exact⟨bsc (bsc (bsc (bsc (bsc bf.o)))),u,s.n,rfl,J.o,t.blk I.o δ⟩
end Ca
def yts (N own:Nat) (A:List (List Rat)) (b c:List Rat) (B:Nat) (cols:List Nat):COut :=
  let r:=pivs (zbE N A b c (List.replicate N true)) B cols
  if r.err then .spent r.n
  else match r.at_ with
    | some _=>.none r.n
    | .none=>yth r.n r.cols (ys2 N A b (B-r.n) (ys5 N own 0) (ys7 (zaC N A r.cols c) (List.replicate N true)) r.cols 0)
theorem ytz{l:LexOut}(hr:pivs (zbE N A b c (List.replicate N true)) B cols=r)(d:ys2 N A b (B-r.n) (ys5 N own 0) (ys7 (zaC N A r.cols c) (List.replicate N true)) r.cols 0=l) :
  (r.err=true->yts N own A b c B cols=.spent r.n)/\(∀k,r.err=false->r.at_=some k->yts N own A b c B cols=.none r.n)/\(r.err=false->r.at_=none->yts N own A b c B cols=yth r.n r.cols l):=by
 unfold yts;simp only[hr,d];exact⟨λh=>by rw[if_pos h],λk h a=>by rw[h,a];rfl,λh a=>by rw[h,a];rfl⟩
namespace Ca
theorem yuw(S:Nat)(C:OA)(nC cC:Nat)(R:OA)(m cR:Nat)(cost:List Rat)(rows:List PRow)(N B:Nat)(tA:OA)(tc Y:Nat)(cols:List Nat)(w:World)(hc:VecS w 0 (C,nC,cC) cost)(hr:RowsS w 0 (R,m,cR) rows)(hg:GoodS S nC m cost rows)(hN:nC+cnt rows m=N)(hB:B<=1000000)(hi:IntsS w Y (tA,m,tc) cols)(aC:Basis m N (zc3 rows) cols)(hR:zdi (zaC N (zc3 rows) cols (zjD cost rows)) (List.replicate N true)=none) :
  Calls prog 33 #[.agg #[(C,nC,cC),(R,m,cR)],(tA,m,tc),(B:Int)] w (ytb w nC N (zc3 rows) (zg8 rows) cost B id (yts N nC (zc3 rows) (zg8 rows) (zjD cost rows) B cols)):=by
 refine μ3 hc.len hg hN λfK D U=>?_;have fO:=zgO rows m;have fQ:=hg.hr;have fN:=hg.hc;have bf:N<=64:=ω;have fR:m<=64:=ω;refine μ7 (show Rows nC rows from λp d=>⟨(hg.rw_ p d).1,λq hq=>Zl ((hg.rw_ p d).2.1 q hq) hg.hS,Zl (hg.rw_ p d).2.2 hg.hS⟩) hg.cap hg.sb (show Sm cost from λq hq=>Zl (hg.sc q hq) hg.hS) hB aC hR λa7 Q a8 a9 aX aW a6=>?_;obtain⟨r,F⟩:∃r,pivs (zbE N (zc3 rows) (zg8 rows) (zjD cost rows) (List.replicate N true)) B cols=r:=⟨_,rfl⟩
 obtain⟨l,Z⟩:∃l,ys2 N (zc3 rows) (zg8 rows) (B-r.n) (ys5 N nC 0) (ys7 (zaC N (zc3 rows) r.cols (zjD cost rows)) (List.replicate N true)) r.cols 0=l:=⟨_,rfl⟩
 refine μ4 (ytz F Z) F Z (show r.n<=B by rw[<-F];exact zLj _ _ _) λX a5 a2 aw=>?_;generalize hoo:yts N nC (zc3 rows) (zg8 rows) (zjD cost rows) B cols=o at *
 clear hg hN hB F Z hoo aC hR;obtain⟨W,i⟩:∃W,((w.alloc (.cells #[(C,nC,cC),(R,m,cR)] 33)).alloc (.cells #[.int .i64 0,false,(),(),()] 68))=W:=⟨_,rfl⟩
 refine μ7 (show θ W w.heap.size #[(C,nC,cC),(R,m,cR)] 33by rw[<-i];exact zak (zam σ)) (show θ W (w.heap.size+1) #[.int .i64 0,false,(),(),()] 68by rw[<-i];exact zam σ) (show Below w w W by rw[<-i];exact(zae w _).alloc σ _) (show w.heap.size+2<=W.heap.size by rw[<-i];simp) (show VecS W 0 (C,nC,cC) cost by rw[<-i];exact((hc).alloc _).alloc _) (show RowsS W 0 (R,m,cR) rows by rw[<-i];exact((hr).alloc _).alloc _) (show IntsS W Y (tA,m,tc) cols by rw[<-i];exact((hi).alloc _).alloc _) λaz aA BB HZ HC HR a1=>?_;obtain⟨cY,c7,cZ,cT⟩:=bc2 az.o;obtain⟨dp,dj,dL,df,dh,du,dx,db,dB,dG,eb,dU,ff,e0,eU,ez,fh,e4,eX,eD⟩:=bf5 aA.o;clear hc hr hi;go_enter func33,ntmps33;go_wp2_with fail
 clear i;with_reducible refine(Pb.standardN S D.o.h1 C nC cC R m cR cost rows N U.o _ HC.o HR.o ω ω a7.o D.o.kd D.o.sc (λp d=>(D.o.rw_ p d).2)).mono ?_
 rintro e w1 ⟨rA,rc,lA,bA,bc_,kA,kc,eA,ec,rfl,hst,hb⟩;refine μ7 (zad hb az.o) (zad hb aA.o) (HC.o.below hb) (HR.o.below hb) (a1.o.below hb) (show StdP w1 rA rc lA bA bc_ kA kc eA ec m N S (zc3 rows) (zg8 rows) (zjD cost rows) (zca nC rows m)from hst) (BB.o.trans ((hb).mono BB.o.size)) λaP aN fD fe bq ba aO=>?_;obtain⟨cW,c5,cX,c6⟩:=bc2 aP.o;obtain⟨dk,c3,dH,dd,dq,cS,dD,di,dc,dv,dQ,dF,fg,e1,eV,eB,fi,e5,eY,eE⟩:=bf5 aN.o;clear hst hb;have u:=zae w1 (.cells #[(rA,m,rc),(N:Int),(bA,m,bc_),(kA,N,kc),(nC:Int),(eA,m,ec)] 114);refine μ7 (zad u aP.o) (zad u aN.o) (fD.o.below u) (fe.o.below u) (bq.o.below u) (ba.o.below u) (aO.o.trans ((u).mono aO.o.size)) λL M bw fx br aG z=>?_;obtain⟨c0,cU,c1,cV⟩:=bc2 L.o;obtain⟨dl,c4,da,dr,dn,cQ,dI,de,dw,dg,ed,dV,e2,ex,et,d9,e6,eo,eu,ea⟩:=bf5 M.o;have E:=un (zal w1 #[(rA,m,rc),(N:Int),(bA,m,bc_),(kA,N,kc),(nC:Int),(eA,m,ec)] 114);obtain⟨d1,dY,d2,dZ,em,dN,e8,fj,ft,fl,fv,fn⟩:=bc6 E.o;clear cY c7 cZ cT dp dj dL df dh du dx db dB dG eb dU ff e0 eU ez fh e4 eX eD cW c5 cX c6 dk c3 dH dd dq cS dD di dc dv dQ dF fg e1 eV eB fi e5 eY eE;go_wp2_with fail
 have fU:=HZ.o;have aY:=un z.o;have bj:=aY.o.size;generalize hwS:(w1.alloc (.cells #[(rA,m,rc),(N:Int),(bA,m,bc_),(kA,N,kc),(nC:Int),(eA,m,ec)] 114))=wS at *
 clear hwS;with_reducible refine(Tb.new rA rc lA bA bc_ kA kc eA ec m N S nC (zc3 rows) (zg8 rows) (zjD cost rows) (zca nC rows m) tA tc cols Y _ aG.o br.o aW.o Q.o).mono ?_
 rintro e G ⟨q,tB,tbc,rfl,hT,hb⟩;refine μ4 (zad hb L.o) (zad hb M.o) (zad hb E.o) (hT) λaQ aR aS HT=>?_;obtain⟨dW,c8,dX,c9⟩:=bc2 aQ.o;obtain⟨eG,d3,eR,eg,eH,d4,eL,eh,eN,ej,eM,ei,e3,ey,eW,eC,e7,ep,eZ,eF⟩:=bf5 aR.o;obtain⟨fp,fa,fq,fc,fr,fd,fs,fk,fu,fm,fw,fo⟩:=bc6 aS.o;have ao:=un hb;clear hT hb;have aZ:=un (HT.o).hle;go_wp2_with fail
 with_reducible refine(Du.all N bf _).mono ?_
 rintro e w4 ⟨MA,rfl,hm,hb⟩;refine μ5 (zad hb aQ.o) (zad hb aR.o) (zad hb aS.o) (HT.o.below hb) (hm) λdm dy ew bt HM=>?_;obtain⟨dJ,ds,dK,dt⟩:=bc2 dm.o;obtain⟨dR,dz,dO,dC,dS,dA,dP,dE,eI,d5,d8,d0,eO,ek,ee,dT,eP,el,ef,dM⟩:=bf5 dy.o;obtain⟨eJ,d6,eK,d7,eQ,en,e9,eq,eS,er,eT,es⟩:=bc6 ew.o;have aU:=un (ao.o.trans (hb.mono ao.o.size));clear hm hb;go_wp2_with fail
 have fM:=aX.o;with_reducible refine(Du.run bt.o MA N G.heap.size HM.o Q.o (B:Int) ω a6.o).mono ?_
 rintro e I ⟨ev,rfl,hev,hT5,hb5,hk5⟩;rw[show((B:Int)).toNat=B from Ym _,a5.o]at hev hT5 ⊢;have ay:=un hT5;have a3:=un (HM.o.kept hk5 δ);have t:Below wS wS I:=aU.o.trans hb5;have O:=un t;have bc:=un (show ∀g,(Value.slice tB m tbc).ownBlock=some g->g<I.heap.size by intro g hg;obtain⟨_,_,_,hP⟩:=hT5;exact(hP.colsI.own.lt g hg).2);clear hT5 hb5 hk5;refine μ5 (zad t L.o) (zad t M.o) (zad t E.o) (aG.o.below t) (z.o.trans ((t).mono z.o.size)) λaI K aJ bp aK=>?_;obtain⟨bP,bE,bQ,bF⟩:=bc2 aI.o;obtain⟨ah,ad,bG,bu,ai,ae,bH,bv,aj,af,bI,bx,ak,ag,bJ,bz,al,ac,bK,bB⟩:=bf5 K.o;obtain⟨bR,bC,bS,bD,bT,bL,bU,bM,bV,bN,bW,bO⟩:=bc6 aJ.o;clear t;clear c0 cU c1 cV dl c4 da dr dn cQ dI de dw dg ed dV e2 ex et d9 e6 eo eu ea d1 dY d2 dZ em dN e8 fj ft fl fv fn dW c8 dX c9 eG d3 eR eg eH d4 eL eh eN ej eM ei e3 ey eW eC e7 ep eZ eF fp fa fq fc fr fd fs fk fu fm fw fo dJ ds dK dt dR dz dO dC dS dA dP dE eI d5 d8 d0 eO ek ee dT eP el ef dM eJ d6 eK d7 eQ en e9 eq eS er eT es;have fS:=aw.o;rcases hev with ⟨a,rfl⟩ | ⟨a,x,rfl,y⟩
 ·cases hat:r.at_ with
  | some j =>
   have d:zbh (some j)=(j:Int):=rfl;rw[d];have s:=un (X.o.2.1 j a hat);have fP:(0:Int)<=(j:Int):=Zf _;clear a hat d;go_wp2;refine Zh (v:=.tuple #[.agg #[.int .i64 2,false,(),(),()],.int .i64 (r.n:Int),(),.nilIface]) (by simp[results,results33,go_sem,ah,ad,ai,ae,aj,af,ak,ag,al,ac]) rfl ?_;have k:=zqy K.o (.int .i64 2) false () () ();rw[s.o];exact⟨bsc (bsc (bsc (bsc (bsc aK.o)))),rfl⟩
  | none =>
   have d:zbh none = -1:=rfl;rw[d];have au:=un (X.o.2.2 a hat);clear a hat d;go_wp2_with fail
   with_reducible refine(Tb.basis ay.o).mono ?_
   rintro e w6 ⟨Bo,cBo,rfl,hi,hb⟩;refine μ7 (zad hb aI.o) (zad hb K.o) (zad hb aJ.o) (bp.o.below hb) (ay.o.below hb) (a3.o.below hb) (show IntsS w6 I (Bo,m,cBo) r.cols from hi) λcm cn co aF bo cp HI=>?_;obtain⟨b4,cd,b5,ce⟩:=bc2 cm.o;obtain⟨b6,cf,cJ,cE,b7,cg,cK,cF,cw,cz,cL,cG,cx,cA,cM,cH,cy,cB,cN,cI⟩:=bf5 cn.o;obtain⟨b8,ch,b9,ci,ca,cj,cb,ck,cc,cl,cO,cD⟩:=bc6 co.o;have aV:=un (O.o.trans (hb.mono O.o.size));clear hi hb;go_wp2_with fail
   rw[show(B:Int)-(r.n:Int)=((B-r.n:Nat):Int)by omega];with_reducible refine(least bo.o kA kc 0 (zjD cost rows) aF.o.C aF.o.zc MA N G.heap.size (List.replicate N true) cp.o aZ.o Q.o nC (B-r.n) (by have:=U.o;omega) ω).mono ?_
   rintro e w7 ⟨ev,rfl,hev,hln,hT7,hb7,hk7⟩;rw[a2.o]at hev hln hT7 ⊢;have bb:=un hT7;have a0:=un (hk7.ints δ HI.o λg hg e=>by have h1:=(HI.o.own.lt g hg).1;have h2:=bc.o g e.symm;omega);have f:Below wS wS w7:=aV.o.trans hb7;have fJ:=un f;have fT:r.n+l.n<=1000000:=ω;clear hT7 hb7 hk7 hln;refine μ6 (zad f L.o) (zad f M.o) (zad f E.o) (bw.o.below f) (fx.o.below f) (z.o.trans ((f).mono z.o.size)) λaH am aM bm bn J=>?_;obtain⟨f7,f3,f8,f4⟩:=bc2 aH.o;obtain⟨fE,fy,f0,fV,fF,fz,f1,fW,fG,fA,f2,fX,fH,fB,f5,fY,fI,fC,f6,fZ⟩:=bf5 am.o;obtain⟨f9,gq,gb,gs,gd,gu,gx,ge,gz,gg,gB,gi⟩:=bc6 aM.o;clear f;clear bP bE bQ bF ah ad bG bu ai ae bH bv aj af bI bx ak ag bJ bz al ac bK bB bR bC bS bD bT bL bU bM bV bN bW bO b4 cd b5 ce b6 cf cJ cE b7 cg cK cF cw cz cL cG cx cA cM cH cy cB cN cI b8 ch b9 ci ca cj cb ck cc cl cO cD;rcases hev with ⟨a,rfl⟩ | ⟨a,x,num,rfl,bg,y⟩
   ·have s:=un (show o=.best r.cols l.cols (r.n+l.n)from au.o.trans (by unfold yth;rw[a];rfl));clear a;go_wp2_with fail
    with_reducible refine(answer bb.o C nC cC R m cR cost rows bm.o bn.o (by have:=U.o;omega) a9.o a8.o).mono ?_
    rintro e w8 ⟨g2,A2,m2,c2,D2,md2,cd2,P,cP,rfl,hn,hv,hb⟩;refine μ7 (zad hb aH.o) (zad hb am.o) (zad hb aM.o) (a0.o.below hb) (hn) (hv) (J.o.trans ((hb).mono J.o.size)) λbY aL bZ bs HA a4 bX=>?_;obtain⟨gl,gn,gm,gp⟩:=bc2 bY.o;obtain⟨b0,b2,gI,gD,b1,b3,gJ,gE,cq,ct,gK,gF,cr,cu,gL,gG,cs,cv,gM,gH⟩:=bf5 aL.o;obtain⟨ga,gr,gc,gt,gw,gv,gy,gf,gA,gh,gC,gj⟩:=bc6 bZ.o;clear hn hv hb;have bi:w.heap.size<=w7.heap.size:=(J).o.size;have bh:w.heap.size<=I.heap.size:=Zl bj O.o.size;go_wp2;refine Zh (v:=.tuple #[.agg #[.int .i64 1,g2,(A2,m2,c2),(D2,md2,cd2),(P,nC,cP)],.int .i64 ((r.n+l.n:Nat):Int),(Bo,m,cBo),.nilIface]) (by simp[results,results33,go_sem,b0,b2,b1,b3,cq,ct,cr,cu,cs,cv]) rfl ?_;have k:=zqy aL.o (.int .i64 1) g2 (A2,m2,c2) (D2,md2,cd2) (P,nC,cP);rw[s.o];exact⟨bsc (bsc (bsc (bsc (bsc bX.o)))),g2,A2,m2,c2,D2,md2,cd2,P,cP,Bo,m,cBo,rfl,HA.o.tk k δ,(a4.o.base bi).tk k δ δ,(bs.o.base bh).tk k δ⟩
   refine μ3 (show o=.spent (r.n+l.n)from au.o.trans (by unfold yth;rw[if_pos a])) y (show num<=B by omega) λs T V=>?_;clear a y bg;go_wp2;refine Zh (v:=.tuple #[.agg #[.int .i64 0,false,(),(),()],.int .i64 ((r.n+l.n:Nat):Int),(),.iface 239 (.pointer (some ⟨x,0,none⟩))]) (by simp[results,results33,go_sem,fE,fy,fF,fz,fG,fA,fH,fB,fI,fC]) rfl ?_;have k:=zqy am.o (.int .i64 0) false () () ();rw[s.o];exact⟨bsc (bsc (bsc (bsc (bsc J.o)))),x,num,rfl,V.o,k.blk T.o δ⟩
 refine μ3 (X.o.1 a) y aw.o λs T V=>?_;clear a y;go_wp2;refine Zh (v:=.tuple #[.agg #[.int .i64 0,false,(),(),()],.int .i64 (r.n:Int),(),.iface 239 (.pointer (some ⟨x,0,none⟩))]) (by simp[results,results33,go_sem,ah,ad,ai,ae,aj,af,ak,ag,al,ac]) rfl ?_;have k:=zqy K.o (.int .i64 0) false () () ();rw[s.o];exact⟨bsc (bsc (bsc (bsc (bsc aK.o)))),x,r.n,rfl,V.o,k.blk T.o δ⟩
end Ca
namespace Ca
theorem ytd(S:Nat)(hS:8*S+8<=LIM)(o:Int)(q:Rat)(xs:List Rat)(g:Bool)(A:OA)(m c:Nat)(D:OA)(r l:Nat)(P:OA)(n j:Nat)(g':Bool)(d:OA)(m' c':Nat)(f:OA)(s p:Nat)(i:OA)(v k:Nat)(w:World)(G:RatS w g (A,m,c) (D,r,l) q)(t:VecS w 0 (P,n,j) xs)(I:RatS w g' (d,m',c') (f,s,p) q)(u:VecS w 0 (i,v,k) xs)(F:4*(mw q+mw q)+8<=LIM)(M:∀x∈xs,mw x<=S) :
  Calls prog 70 #[.agg #[.int .i64 o,g,(A,m,c),(D,r,l),(P,n,j)],.agg #[.int .i64 o,g',(d,m',c'),(f,s,p),(i,v,k)]] w λe w'=>e=.returned true/\Below w w w':=by
 refine μ3 hS F M λU T z=>?_;obtain rfl:n=v:=t.len.trans u.len.symm;clear hS F M;obtain⟨W,a⟩:∃W,((w.alloc (.cells #[.int .i64 o,g,(A,m,c),(D,r,l),(P,n,j)] 68)).alloc (.cells #[.int .i64 o,g',(d,m',c'),(f,s,p),(i,n,k)] 68))=W:=⟨_,rfl⟩
 refine μ7 (show θ W w.heap.size #[.int .i64 o,g,(A,m,c),(D,r,l),(P,n,j)] 68by rw[<-a];exact zak (zam σ)) (show θ W (w.heap.size+1) #[.int .i64 o,g',(d,m',c'),(f,s,p),(i,n,k)] 68by rw[<-a];exact zam σ) (show Below w w W by rw[<-a];exact(zae w _).alloc σ _) (show RatS W g (A,m,c) (D,r,l) q by rw[<-a];exact((G).alloc _).alloc _) (show VecS W 0 (P,n,j) xs by rw[<-a];exact((t).alloc _).alloc _) (show RatS W g' (d,m',c') (f,s,p) q by rw[<-a];exact((I).alloc _).alloc _) (show VecS W 0 (i,n,k) xs by rw[<-a];exact((u).alloc _).alloc _) λB E y O V Q X=>?_;obtain⟨al,av,am,ag,az,aI,ba,a6,bc,a8⟩:=bc5 B.o;obtain⟨aG,aB,aA,aJ,aM,aN,a0,aS,a2,aV⟩:=bc5 E.o;clear G t I u;go_enter func70,ntmps70;go_wp2_with fail
 clear a;with_reducible refine(Ct.same_yes g A m c D r l q g' d m' c' f s p q _ O.o Q.o T.o rfl).mono ?_
 rintro e w1 ⟨rfl,hb⟩;refine μ5 (zad hb B.o) (zad hb E.o) (V.o.below hb) (X.o.below hb) (y.o.trans ((hb).mono y.o.size)) λL J Z Y K=>?_;obtain⟨aj,ar,ak,au,ax,aD,bb,a7,bd,a9⟩:=bc5 L.o;obtain⟨aC,ap,aH,af,aw,aK,a1,aT,a3,aW⟩:=bc5 J.o;clear hb;go_wp2_with fail
 with_reducible refine(Vc.same S U.o P n j xs 0 i n k xs 0 _ Z.o Y.o z.o z.o).mono ?_
 rintro e w2 ⟨rfl,hb⟩;refine μ3 (zad hb L.o) (zad hb J.o) (K.o.trans ((hb).mono K.o.size)) λaa ab ac=>?_;obtain⟨an,ah,ao,ai,aP,aO,a4,aZ,a5,aY⟩:=bc5 aa.o;obtain⟨aE,aq,aF,ae,aL,ay,aU,aR,aX,aQ⟩:=bc5 ab.o;clear hb;rw[show decide (xs=xs)=true from ZT rfl];go_wp2;go_ret;exact⟨rfl,ac.o⟩
end Ca
open Ca (solve)
def cO:COut->Int
  | .spent _=>0
  | .none _=>2
  | .best .. => 1
  | .falls _=>3
section
variable (nC m:Nat) (cost:List Rat) (rows:List PRow)
def cX:COut->List Rat
  | .best _ G _=>ytf nC (nC+cnt rows m+m) (zt0 (zc3 rows) (zg8 rows)) (zwh (zg8 rows)) G
  | _=>[]
def cV:COut->Rat
  | .best _ G _=>dot cost (ytf nC (nC+cnt rows m+m) (zt0 (zc3 rows) (zg8 rows)) (zwh (zg8 rows)) G)
  | _=>0
def cI:COut->List Nat
  | .best cols _ _=>ytJ (nC+cnt rows m) cols
  | _=>[]
def ys6:COut:=ys3 (nC+cnt rows m) m nC (zc3 rows) (zg8 rows) (zjD cost rows) 4000
end
theorem ytx:∀a,a<=9->∀b,b<=4->binom (a+b) b+b+bmax a b<=4000:=by decide +kernel
section
variable {nC m:Nat} {cost:List Rat} {rows:List PRow} (hg:Good1 nC m cost rows) (hlc:cost.length=nC) (hlr:rows.length=m)
include hg hlc hlr
theorem ys8:CEnds m (nC+cnt rows m) nC (zc3 rows) (zg8 rows) (zjD cost rows) (ys6 nC m cost rows)/\(ys6 nC m cost rows).pivots<=4000/\∀B,((ys6 nC m cost rows).pivots<=B->ys3 (nC+cnt rows m) m nC (zc3 rows) (zg8 rows) (zjD cost rows) B=ys6 nC m cost rows)/\(B<(ys6 nC m cost rows).pivots->ys3 (nC+cnt rows m) m nC (zc3 rows) (zg8 rows) (zjD cost rows) B=.spent B):=by
 have d:=zVA hg.toS.sh hlc hlr rfl;have f:=zVz hg.toS.sh hlc hlr rfl;have hc:(zjD cost rows).length=nC+cnt rows m:=by unfold zjD;rw[ZD,ZO,hlc,hlr]
 have i:=ytx (nC+cnt rows m) (by have:=hg.hc;have:=hg.hr;have:=zgO rows m;omega) m hg.hr;obtain⟨o,h1,g,a⟩:=yty (own:=nC) d f hc ω;have e:ys6 nC m cost rows=o:=(a 4000).1 ω;rw[e];exact⟨h1,ω,a⟩
theorem ytK(n:Nat):ys6 nC m cost rows≠.spent n:=(ys8 hg hlc hlr).1.not n
end
def yu6 (w:World) (o:Int) (v:Rat) (X:List Rat) (I:List Nat) (n:Nat) (e:Ending) (w':World):Prop :=
  ∃(g:Bool) (A:OA) (m c:Nat) (D:OA) (md cd:Nat) (P:OA) (nP cP:Nat) (Ba:OA) (na ca:Nat),e=.returned (.tuple #[.agg #[.int .i64 o,g,(A,m,c),(D,md,cd),(P,nP,cP)],(n:Int),(Ba,na,ca),.nilIface])/\RatS w' g (A,m,c) (D,md,cd) v/\VecS w' 0 (P,nP,cP) X/\IntsS w' 0 (Ba,na,ca) I/\Below w w w'
theorem ytb.a{o:COut}(h:ytb w nC (nC+cnt rows m+m) (zt0 (zc3 rows) (zg8 rows)) (zwh (zg8 rows)) cost B (ytJ (nC+cnt rows m)) o e w')(r:∀n,o≠.spent n):yu6 w (cO o) (cV nC m cost rows o) (cX nC m rows o) (cI nC m rows o) o.pivots e w':=by
 obtain⟨d,h⟩:=h;cases o with
 | spent n=>exact(r n rfl).elim
 | none n=>exact⟨false,none,0,0,none,0,0,none,0,0,none,0,0,h,RatS.zero _,.nil _ _,IntsS.nil _ _,d⟩
 | falls n=>exact⟨false,none,0,0,none,0,0,none,0,0,none,0,0,h,RatS.zero _,.nil _ _,IntsS.nil _ _,d⟩
 | best cols G n =>
  obtain⟨g,A,t,c,D,s,k,P,i,f,u,j,l,hr,p,hi⟩:=h;exact⟨g,A,t,c,D,s,k,P,nC,i,f,u,j,l,hr,p.base (Zb _),hi.base (Zb _),d⟩
namespace Ca
section
variable (C:OA) (nC cC:Nat) (R:OA) (m cR:Nat) (cost:List Rat) (rows:List PRow) (w:World) (hc:VecS w 0 (C,nC,cC) cost) (hr:RowsS w 0 (R,m,cR) rows) (hg:Good1 nC m cost rows)
include hc hr hg
theorem yvj(K:Nat)(d:(ys6 nC m cost rows).pivots<=K)(e:K<=1000000):Calls prog 20 #[.agg #[(C,nC,cC),(R,m,cR)],(K:Int)] w (yu6 w (cO (ys6 nC m cost rows)) (cV nC m cost rows (ys6 nC m cost rows)) (cX nC m rows (ys6 nC m cost rows)) (cI nC m rows (ys6 nC m cost rows)) (ys6 nC m cost rows).pivots):=by have h:=solve 1 C nC cC R m cR cost rows _ _ K w hc hr hg.toS rfl rfl e;rw[((ys8 hg hc.len.symm hr.len.symm).2.2 K).1 d]at h;exact h.mono λ_ _ h=>h.a (ytK hg hc.len.symm hr.len.symm)
theorem yvm:Calls prog 20 #[.agg #[(C,nC,cC),(R,m,cR)],.int .i64 4000] w (yu6 w (cO (ys6 nC m cost rows)) (cV nC m cost rows (ys6 nC m cost rows)) (cX nC m rows (ys6 nC m cost rows)) (cI nC m rows (ys6 nC m cost rows)) (ys6 nC m cost rows).pivots) :=
 yvj C nC cC R m cR cost rows w hc hr hg 4000 (ys8 hg hc.len.symm hr.len.symm).2.1 δ
end
end Ca
open Ca (yuw)
theorem yvy{cols:List Nat}{xs:List Rat}(h:∀k,0<=el xs k):∀n,zbk cols xs n=none
 | 0=>rfl
 | n+1=>by unfold zbk;rw[if_neg (XF.2 (h n)),yvy h n]
theorem yvx(h:n<=N)(cols:List Nat)(xs:List Rat):(zh1 N cols xs).take n=(List.range n).map λj=>pt cols.length (λk=>cols.getD k 0) (el xs) j:=by unfold zh1;rw[<-List.map_take,List.take_range,Xx h]
structure FromO (nC m N:Nat) (cost:List Rat) (rows:List PRow) (I:List Nat) (X:List Rat) (n:Nat):Prop where
  basis:Basis m N (zc3 rows) I
  right:zdi (zaC N (zc3 rows) I (zjD cost rows)) (List.replicate N true)=none
  dual:∀f,pivs (zbE N (zc3 rows) (zg8 rows) (zjD cost rows) (List.replicate N true)) f I=⟨I,none,0,false⟩
  frm:∃G k,yts N nC (zc3 rows) (zg8 rows) (zjD cost rows) 4000 I=.best I G k/\k<=n/\ytf nC N (zc3 rows) (zg8 rows) G=X
section
variable {nC m:Nat} {cost:List Rat} {rows:List PRow} (hg:Good1 nC m cost rows) (hlc:cost.length=nC) (hlr:rows.length=m)
include hg hlc hlr
theorem yvA:cI nC m rows (ys6 nC m cost rows)=[]\/(cO (ys6 nC m cost rows)=1/\FromO nC m (nC+cnt rows m) cost rows (cI nC m rows (ys6 nC m cost rows)) (cX nC m rows (ys6 nC m cost rows)) (ys6 nC m cost rows).pivots):=by
 have d:=zVA hg.toS.sh hlc hlr rfl;have g:=zVz hg.toS.sh hlc hlr rfl;have hc:(zjD cost rows).length=nC+cnt rows m:=by unfold zjD;rw[ZD,ZO,hlc,hlr]
 obtain⟨u,i,_⟩:=ys8 hg hlc hlr;generalize ys6 nC m cost rows=o at u i ⊢;cases u with
 | none h f s v=>exact .inl rfl
 | falls h s=>exact .inl rfl
 | best h s x e =>
  rename_i cols G n k L;show ytJ (nC+cnt rows m) cols=[]\/(1=1/\FromO nC m (nC+cnt rows m) cost rows (ytJ (nC+cnt rows m) cols) (ytf nC (nC+cnt rows m+m) (zt0 (zc3 rows) (zg8 rows)) (zwh (zg8 rows)) G) n)
  have i:n<=4000:=i;generalize hN:nC+cnt rows m=N at *
  by_cases a:∀k,k<m->cols.getD k 0<N;right;have ex:ytJ N cols=cols:=ytY λj hj=>a j (by rw[<-h.basis.len];exact hj)
  rw[ex];have t:=yvu d h.basis a;have lc:(zKb m (zjD cost rows)).length=N+m:=by rw[zSS,hc]
  have eq:∀j,j<N->el (zKb m (zjD cost rows)) j=el (zjD cost rows) j:=λj hj=>zTu ω
  have pr:=yvv d h.basis a hc lc eq;have nn:∀j,j<N->0<=el (zaC N (zc3 rows) cols (zjD cost rows)) j:=λj hj=>by rw[<-pr j hj];exact zTe lc s j ω (zUA hj)
  have z:zdi (zaC N (zc3 rows) cols (zjD cost rows)) (List.replicate N true)=none:=by unfold zdi;exact zhz _ 0 λj _ hj e=>by rw[zKp hc]at hj;have:=nn j ω;grind
  have B:=yvz d g h.basis a;have D:∀k,0<=el (za5 (zc3 rows) (zg8 rows) cols) k:=λk=>by by_cases hk:k<m;rw[<-B];exact h.feas k hk;rw[zDb (by rw[(t.vals_ok _).2];omega)];exact XB
  have dn:zbE N (zc3 rows) (zg8 rows) (zjD cost rows) (List.replicate N true) cols=.stop:=by unfold zbE zi5;rw[yvy D]
  have r:∀f,pivs (zbE N (zc3 rows) (zg8 rows) (zjD cost rows) (List.replicate N true)) f cols=⟨cols,none,0,false⟩:=λf=>zvf dn
  refine⟨rfl,t,z,r,G,L.length,?_,ω,?_⟩
  have p:MayB N (ys7 (zaC N (zc3 rows) cols (zjD cost rows)) (List.replicate N true)) (ys7 (zaC (N+m) (zt0 (zc3 rows) (zg8 rows)) cols (zKb m (zjD cost rows))) (zKc N m)) :=
   ⟨λj hj=>by rw[Vh,yta,yta,zUA hj,z6b hj,pr j hj],λj hj=>by rw[Bool.eq_false_iff];intro q;have:=(yta.1 q).1;rw[zUz hj]at this;cases this⟩
  have st:=(yvw d g nC 0 _ _ cols 4000 0 ω p h.basis a).1;rw[x.enough 4000 0 ω]at st;unfold yts;rw[r 4000];simp only[XI,if_false];rw[<-st];unfold yth;simp only[XI,if_false,Z6]
  have p:MayB N (ys7 (zaC N (zc3 rows) cols (zjD cost rows)) (List.replicate N true)) (ys7 (zaC (N+m) (zt0 (zc3 rows) (zg8 rows)) cols (zKb m (zjD cost rows))) (zKc N m)) :=
   ⟨λj hj=>by rw[Vh,yta,yta,zUA hj,z6b hj,pr j hj],λj hj=>by rw[Bool.eq_false_iff];intro q;have:=(yta.1 q).1;rw[zUz hj]at this;cases this⟩
  obtain⟨st,y⟩:=yvw d g nC 0 _ _ cols 4000 0 ω p h.basis a;rw[x.enough 4000 0 ω]at st;rw[<-st]at y;have vg:=yvz d g x.last.1 y;unfold ytf;rw[vg,yvx ω,yvx ω];left;have:∃k,k<m/\¬cols.getD k 0<N:=YJ λl=>a λk hk=>YJ λh=>l ⟨k,hk,h⟩
  obtain⟨k,hk,l⟩:=this;exact yuh (by rw[h.basis.len];exact hk) l
end
namespace Ca
end Ca
theorem yxb{G:List Nat}(d:G.length=m)(hN:nC<=N){X:Nat->Rat}(a:∀j,X j=pt m (λk=>G.getD k 0) (el (za5 A b G)) j):ytf nC N A b G=(List.range nC).map X:=by unfold ytf;rw[yvx hN,d];exact YK λj _=>(a j).symm
