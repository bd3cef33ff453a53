/- Contracts and lemmas: PrB. Conditions: as each says. -/
import Derived.Test.YtbpjabgfcbjjmaaGreatLuFacYn
import Derived.Test.YtbpjabgfcbjjmaaGreatStdWYn
set_option linter.all false
set_option maxHeartbeats 4000000
set_option maxRecDepth 100000
namespace Go.Proofs.YtbpjabgfcbjjmaaGreat
open Go.RowKit Am Tryz
attribute [local go_sem ↓] Go.wp_at_zero Go.wp_at_succ
variable {A:List (List Rat)}{b:List Rat}{H S k m:Nat}{q:Rat}{v:Value}{w:World}
def zVG(r:Rat)(xs:List Rat):scale r xs=xs.map λx=>r*x:=rfl
def zUT{r:List Rat}(h:A[k]? = some r):(zt0 A b).take (k+1)=(zt0 A b).take k++[scale ((sgI (el b k):Int):Rat) r++zdL A.length k]:=by
 have hk:=(ZF.1 h).1;have e:(zt0 A b)[k]? = some (scale ((sgI (el b k):Int):Rat) r++zdL A.length k):=by unfold zt0;rw[Z1,XH hk,zVG,zUb];grind
 rw[Xe,e];rfl
def zUU(h:b[k]? = some q):(zwh b).take (k+1)=(zwh b).take k++[((sgI q:Int):Rat)*q]:=by
 have e:(zwh b)[k]? = some (((sgI q:Int):Rat)*q):=by unfold zwh;rw[Z1,h,zUb];rfl
 rw[Xe,e];rfl
def zWK(h:b[k]? = some q):(b.map sgI).take (k+1)=(b.map sgI).take k++[sgI q]:=by grind[List.take_add_one]
def zTt(A:List (List Rat))(b:List Rat):(zt0 A b).length=A.length:=by simp[zt0]
def zUh(b:List Rat):(zwh b).length=b.length:=by simp[zwh]
theorem zWX(p q:Rat):mw (sgn p*q)=mw q:=by
 unfold sgn;split
 rw[show(-1:Rat)*q = -q by grind,zhY];grind
def zXc(h1:1<=S)(zA:∀r∈A,∀q∈r,mw q<=S):∀r∈zt0 A b,∀q∈r,mw q<=S:=λr hr q a=>by unfold zt0 at hr;obtain⟨k,hk,rfl⟩:=ZH.1 hr;rw[Xb]at hk;rcases ZT.1 a with h | h;grind[zWX,List.mem_of_getElem?,zaO];unfold zdL at h;grind[List.mem_or_eq_of_mem_set,Nat.le_trans,mw0,mw1]
def zXd(zb:∀q∈b,mw q<=S):∀q∈zwh b,mw q<=S:=λq a=>by obtain⟨x,c,rfl⟩:=ZH.1 a;rw[zWX];exact zb x c
def zXe{c:List Rat}(h1:1<=S)(zc:∀q∈c,mw q<=S):∀q∈zKb m c,mw q<=S:=λq a=>by rcases ZT.1 a with h | h;exact zc q h;grind[Nat.le_trans,mw0]
def zTC{ops:Array Oper}{o:Oper}{a:Act}{K:Act->World->Prop}{Q:Exit->Act->World->Prop}{E:Prop}(hg:o.guard=none)(s x:Operand)
  (X:o.op=.call { callee:=.builtin .append,args:=#[s,x],argTypes:=#[30,30] })   {qs:List Rat} (hs:a.eval s=v) (hv:VecS w H v qs) {b:Nat} (hx:a.eval x=.slice (some ⟨b,0,none⟩) 1 1)
  {g:Bool} {A:OA} {c:Nat} {D:OA} {i f:Nat}  (S:θ w b #[g,(A,m,c),(D,i,f)] 62) (hq:RatS w g (A,m,c) (D,i,f) q) {N:Nat} (hN:qs.length=N) (ah:N+1<=1000000) (I:H<=w.heap.size)
  (R:∀j c' w',VecS w' H (.slice j (N+1) c') (qs++[q])->TKeep 62 w w'->Below H w w'->zff w w'->(∀k,k<w.heap.size->some k≠v.ownBlock->w'.heap[k]? = w.heap[k]?) ->
   ((Value.slice j (N+1) c').ownBlock=v.ownBlock\/∀k,(Value.slice j (N+1) c').ownBlock=some k->w.heap.size<=k)->K (a.put o.dst (.slice j (N+1) c')) w') :
  if Region.wanted o (yielded ops a.tmps)=true then Oper.wp prog o a w K Q else E:=by
 have hw:Region.wanted o (yielded ops a.tmps)=true:=by simp[Region.wanted,hg]
 rw[if_pos hw];subst hN;obtain⟨y,hi,F,n,G⟩:=info_parts ze0;obtain⟨l,h1,O,d⟩:=hv.row;have r:=zC6 S;have C:∀u∈[Value.bool g,.slice A m c,.slice D i f],u.oneCell'=true:=by intro u L;simp at L;rcases L with rfl | rfl | rfl<;>rfl
 obtain⟨M,w',t,Y,p,_⟩:=run_append_own (P:=prog) w H 30 o.type 62 y _ 3 56 underlying30 hi F n G rfl δ v qs.length (rcells l) d ⟨b,0,none⟩ 1 1 [.bool g,.slice A m c,.slice D i f] rfl r C (by unfold maxLen;omega) ω I;have W:M.ownBlock=v.ownBlock\/∀k,M.ownBlock=some k->w.heap.size<=k:=by
  rcases d.2 with ⟨rfl,V⟩ | ⟨g',cap,cur,rfl,af,U,ai,ag,T,aj⟩
  obtain⟨v2,w2,e,Z,_⟩:=run_append_own (P:=prog) w w.heap.size 30 o.type 62 y _ 3 56 underlying30 hi F n G rfl δ () 0 [] (Xs _ _ _ _) ⟨b,0,none⟩ 1 1 [.bool g,.slice A m c,.slice D i f] rfl r C (by unfold maxLen;omega) ω (Za _);rw[t]at e;injection e with e1 e2;subst e1;exact .inr λk hk=>(Z.lt k hk).1
  by_cases ab:qs.length+1<=cap;have e:=run_append_room (P:=prog) w 30 o.type 62 y underlying30 hi g' qs.length cap cur U ⟨b,0,none⟩ 1 1 [.bool g,.slice A m c,.slice D i f] (by rw[n];rfl) r C ab (by rw[n,T];simp;omega);rw[t]at e;injection e with e1 e2;exact .inl (by rw[e1];rfl);have e:=run_append_grow (P:=prog) w 30 o.type 62 y _ underlying30 hi F ⟨g',0,none⟩ qs.length cap (rcells l) (by rw[n];exact d.1) (d.cells (g:=g') rfl) ⟨b,0,none⟩ 1 1 [.bool g,.slice A m c,.slice D i f] (by rw[n];rfl) r ω ω (growslice_fits ω (by rw[G];omega));rw[t]at e;injection e with e1 e2;exact .inr λk hk=>by rw[e1]at hk;have J:some w.heap.size=some k:=hk;grind
 have z:=VecS.append h1 O d hq Y p;obtain⟨j,n',c',rfl⟩:=z.slice;have B:=z.len;rw[Zz]at B;simp only[Yt,Vs,Xc]at B;subst B;exact Lib.wp_append_run w s x 30 30 X v _ hs hx _ w' t (R j c' w' z (TKeep.grown d p) ((Zl _ _).grown p I (λk hk=>(d.lt k hk).1)) (zh3 d p) p.block W)
def VecsL.apart{w':World}{l:List Value}{L:List (List Rat)}{ob:Option Nat}(h:VecsL w H v l L)(hk:TKeep 62 w w')(hr:zff w w')(d:∀k,k<w.heap.size->some k≠ob->w'.heap[k]? = w.heap[k]?)(c:∀s∈l,∀g,s.ownBlock=some g->some g≠ob):VecsL w' H v l L:=by refine h.keepAll (λk e=>hk k (h.own.lt k e).2 λcs b=>za6 h.own b δ e) λs r f a=>a.keepAll (λk e=>d k (a.lt e).2 (c s f k e)) λ_ _ _ _ x=>x.keepT hr
def zYl{b:Nat}{cs:Array Value}{t:TypeId}(c:θ w b cs t)(v0 v1 f g i j l m:Value):TKeep t w ((((((((w.setCell ⟨b,0,none⟩ v0).setCell ⟨b,1,none⟩ v1).setCell ⟨b,2,none⟩ f).setCell ⟨b,3,none⟩ g).setCell ⟨b,4,none⟩ i).setCell ⟨b,5,none⟩ j).setCell ⟨b,6,none⟩ l).setCell ⟨b,7,none⟩ m):=λk _ d=>by
 have a:k≠b:=λe=>d cs (by rw[e];exact c)
 rw[ZE _ _ _ _ (by exact a),ZE _ _ _ _ (by exact a),ZE _ _ _ _ (by exact a),ZE _ _ _ _ (by exact a),ZE _ _ _ _ (by exact a),ZE _ _ _ _ (by exact a),ZE _ _ _ _ (by exact a),ZE _ _ _ _ (by exact a)]
def zVJ (w:World) (m N S own:Nat) (A0:List (List Rat)) (b0 c0:List Rat) (left:List Int) (e:Ending) (w':World):Prop:=∃(rA:OA) (rc:Nat) (lA:List Value) (bA:OA) (bc_:Nat) (kA:OA) (kc:Nat) (eA:OA) (ec:Nat) (gA:OA) (gc:Nat),
  e=.returned (.tuple #[.agg #[(rA,m,rc),((N+m:Nat):Int),(bA,m,bc_),(kA,N+m,kc),(own:Int),(eA,m,ec),(gA,m,gc),(N:Int)],.nilIface]) /\
  StdP w' rA rc lA bA bc_ kA kc eA ec m (N+m) S (zt0 A0 b0) (zwh b0) (zKb m c0) left/\IntsZ w' 0 (gA,m,gc) (b0.map sgI)/\Below w w w'
namespace Pr
def pbegin(rA:OA)(rc:Nat)(lA:List Value)(bA:OA)(bc_:Nat)(kA:OA)(kc:Nat)(eA:OA)(ec m N S own:Nat)(j:List (List Rat))(a c0:List Rat)(left:List Int)(w:World)(hS:StdP w rA rc lA bA bc_ kA kc eA ec m N S j a c0 left)(cS:N+m<=64)(hl:left.length=m)(cL:8*S+8<=LIM) :
  Calls prog 46 #[.agg #[(rA,m,rc),(N:Int),(bA,m,bc_),(kA,N,kc),(own:Int),(eA,m,ec)]] w (zVJ w m N S own j a c0 left):=by
 refine μ10 hS.blen hS.rows.nlen hS.clen hS.rl hS.zA hS.zb hS.zc hS.hS cL hl λaF aE fR f1 cA cC gm aT cy fW=>?_;have aX:=hS.hm;have gt:=hS.hN;have mZ:(N:Int)+(m:Int)<=64:=ω;clear cL hl;obtain⟨W,hW⟩:∃W,((w.alloc (.cells #[(rA,m,rc),(N:Int),(bA,m,bc_),(kA,N,kc),(own:Int),(eA,m,ec)] 114)).alloc (.cells #[(),.int .i64 0,(),(),.int .i64 0,(),(),.int .i64 0] 118))=W:=⟨_,rfl⟩
 refine μ5 (show θ W w.heap.size #[(rA,m,rc),(N:Int),(bA,m,bc_),(kA,N,kc),(own:Int),(eA,m,ec)] 114by rw[<-hW];exact zak (zam σ)) (show θ W (w.heap.size+1) #[(),.int .i64 0,(),(),.int .i64 0,(),(),.int .i64 0] 118by rw[<-hW];exact zam σ) (show Below w w W by rw[<-hW];exact(zae w _).alloc σ _) (show w.heap.size+2<=W.heap.size by rw[<-hW];simp) (show StdP W rA rc lA bA bc_ kA kc eA ec m N S j a c0 left by rw[<-hW];exact((hS).alloc _).alloc _) λae ax Z HZ HS=>?_;obtain⟨jG,_,jH,_,jX,j9,mr,_,mu,_,ib,_⟩:=bc6 ae.o;clear hS;go_enter func46,ntmps46;go_wp2_with fail
 clear hW;have gg:=un (Bel.mk (Zl W.heap.size W));refine zaS (S:=λw'=>χ w' w 0 (rA,m,rc)/\χ w' w 1 (.int .i64 (N:Int))/\χ w' w 2 (bA,m,bc_)/\χ w' w 3 (kA,N,kc)/\χ w' w 4 (.int .i64 (own:Int))/\χ w' w 5 (eA,m,ec)) [] (h:=λhHeld=>?_);refine zaw [0,1,3,4] ?_;repeat refine tkL hHeld ?_
 refine zao ?_;refine zaB 2 (h:=λK A=>?_);go_simp
 (go_at_call 111;(with_reducible refine(Mt.rows N m rc rA _).mono ?_);rintro e w1 ⟨rfl,hb⟩;have et:=un (zad hb ae.o);have hg:=un (gg.o.drew.below hb);obtain⟨jE,_,jF,_,jU,j3,ms,_,mv,_,ic,_⟩:=bc6 et.o;clear hb)
 (try go_wp2_with fail)
 refine shutOn A λhHeld=>?_;clear A K;refine zaB 5 (h:=λK A=>?_);go_simp
 (go_at_call 112;(with_reducible refine(Mt.cols N m rc rA _).mono ?_);rintro e d ⟨rfl,hb⟩;have jB:=un (zad hb et.o);have lC:=un (hg.o.below hb);obtain⟨jI,_,jJ,_,kv,kn,lW,_,lX,_,ie,_⟩:=bc6 jB.o;clear hb)
 (try go_wp2_with fail)
 refine shutOn A λhHeld=>?_;clear A K;refine zaw [6,7] ?_;repeat refine tkL hHeld ?_
 refine zao ?_;refine zaM (h:=?_);have al:=un lC.o.b;go_wp2
 go_loopw [7,43] (λrv i wr=>∃(k:Nat) (rR:OA) (cR:Nat) (l:List Value) (o:OA) (cB:Nat) (z:OA) (y:Nat),i=.int .i64 k/\rv=(rR,k,cR)/\k<=m/\θ wr d.heap.size #[(),.int .i64 0,(o,k,cB),(),.int .i64 0,(),(z,k,y),(N:Int)] 118/\VecsL wr W.heap.size (rR,k,cR) l ((zt0 j a).take k)/\VecS wr W.heap.size (o,k,cB) ((zwh a).take k)/\IntsZ wr W.heap.size (z,k,y) ((a.map sgI).take k)/\(∀s∈l,∀g,s.ownBlock=some g->some g≠(Value.slice o k cB).ownBlock)/\Below W.heap.size W wr)
  (λ_ i _=>m-(intOf i).toNat)
 case atStart=>exact⟨0,none,0,[],none,0,none,0,rfl,rfl,Zb _,zal _ _ _,VecsL.nil _ _,VecS.nil _ _,IntsZ.nil _ _,(λs hs=>by cases hs),al.o.alloc al.o.size _⟩
 obtain⟨k,rR,cR,l,o,cB,z,y,rfl,rfl,hk,D,G,E,H,bc,c⟩:=hrel;by_cases bd:k<m
 ·obtain⟨J,rfl,_,_⟩:=HS.o.B.has ω;have aI:=zaH (by rw[aF.o];exact bd);have aB:j[k]? = some (j.getD k []):=zaO (by rw[<-aE.o];exact bd);obtain⟨ga,Aa,ma,ca,Da,ak,ah,y0,y1,y2,cF⟩:=HS.o.B.at_ aI;have ar:=un (zUT (b:=a) aB);rw[<-aE.o]at ar;have a6:=un (zUU aI);have a7:=un (zWK aI);generalize j.getD k []=r0 at aB ar;refine μ3 aB (f1.o r0 (Zj aB)) (cA.o r0 (Zj aB)) λfK a3 gl=>?_
  refine μ4 (cC.o _ (Zj aI)) (And.intro y0 (And.intro y1 y2)) cF (show I64 (sgI (el a k))by rcases zTW (el a k)with e | e<;>rw[e]<;>exact⟨δ,δ⟩) λgn HY a4 aG=>?_;refine μ4 (Zf (zu9 _ aG.o) aT.o) (show((zt0 j a).take k).length=k by rw[ZI,zTt,<-aE.o];omega) (show((zwh a).take k).length=k by rw[ZI,zUh,aF.o];omega) (show((a.map sgI).take k).length=k by rw[ZI,ZK,aF.o];omega) λcv fL fP fT=>?_;have mW:(0:Int)<=(k:Int):=Zg _;have mX:(k:Int)<(m:Int):=ω;have gx:=HZ.o;have bg:=al.o.size;have fM:=un bc;have fQ:=un (show ∀g,(Value.slice o k cB).ownBlock=some g->g<wr.heap.size from λg e=>(E.lt e).2);have mV:J<W.heap.size:=(HS.o.B.lt rfl).2;clear aI aB y0 y1 y2 cF bc;refine μ8 (zad c ae.o) (HS.o.below c) ((a4.o.below c)) (G) (E) (H) (Bel.mk c) (Z.o.trans ((c).mono Z.o.size)) λaP bC aW L O P I aQ=>?_;obtain⟨_,_,_,_,fs,_⟩:=bc6 aP.o;have bR:=zab c HY.o.1;have bU:=zab c HY.o.2.1;have bW:=zab c HY.o.2.2;have F:=un D;clear D G E H c;have gi:=un (Bel.mk (Zl wr.heap.size wr));go_upto_if 52 with (go_at_call 61;(with_reducible refine(Rt.sign ga Aa ma ca Da ak ah (el a k) _ aW.o).mono ?_);rintro e u1 ⟨rfl,hb⟩;refine μ9 (zad hb aP.o) (zad hb F.o) (bC.o.below hb) (L.o.below hb) (O.o.below hb) (P.o.below hb) (I.o.below hb) (gi.o.below hb) (aQ.o.trans ((hb).mono aQ.o.size)) λa0 a1 bD en ci bP b1 g2 bS=>?_;obtain⟨eD,ew,eE,ex,fw,fp,fB,fy,fC,fz,dU,fG⟩:=bc6 a0.o;obtain⟨eL,ey,eJ,eB,eM,ez,eK,eC,fd,eU,eV,eQ,fi,e5,eY,eN,fj,e6,eZ,eG,ft,zip,fg,eX,ej,d4,ed,d7,em,ea,ef,d9⟩:=bf8 a1.o;have bQ:=zab hb bR;have gC:=zaa bQ;have bT:=zab hb bU;have gI:=zaa bT;have bX:=zab hb bW;have gN:=zaa bX;clear hb)
  go_cut[9] (λgv wy=>gv=.int .i64 (sgI (el a k))/\wy=u1)
  case first =>
   by_cases an:el a k<0
   ·have cV:=zrN an;have cW:=zeh.2 an;have a5:=un (show sgI (el a k) = -1 by unfold sgI;rw[if_pos an]);clear an;go_wp2;go_meet;exact⟨by rw[a5.o],rfl⟩
   have cV:=zrO an;have cW:¬(el a k).num.sign<0:=ω;have m1:¬(el a k).num<0:=λe=>an (zeh.1 e)
   have a5:=un (show sgI (el a k)=1 by unfold sgI;rw[if_neg an]);clear an;go_wp2;go_meet;exact⟨by rw[a5.o],rfl⟩
  obtain⟨rfl,rfl⟩:=hcut;rename World=>u1
  clear jG jH jX j9 mr mu ib jE jF jU j3 ms mv ic jI jJ kv kn lW lX ie fs bR bU bW;go_wp2_with fail
  with_reducible refine(Mt.row N m rc rA lA j 0 k r0 _ bD.o.rows fK.o a3.o gt aX).mono ?_
  rintro e u2 ⟨A3,c3,rfl,hv,hb⟩;refine μ10 (zad hb a0.o) (zad hb a1.o) (bD.o.below hb) (en.o.below hb) (ci.o.below hb) (bP.o.below hb) (b1.o.below hb) (g2.o.below hb) (hv) (bS.o.trans ((hb).mono bS.o.size)) λeF eI ia gV gW gZ lZ g3 f6 eR=>?_;obtain⟨_,_,_,_,_,_,_,_,md,_⟩:=bc6 eF.o;have b2:=zab hb bQ;have b5:=zab hb bT;have b6:=zab hb bX;clear hv hb;go_wp2_with fail
  with_reducible refine(Vc.unit m k aX bd _).mono ?_
  rintro e u3 ⟨U,nU,cU,rfl,hv,hb⟩;refine μ11 (zad hb eF.o) (zad hb eI.o) (ia.o.below hb) (gV.o.below hb) (gW.o.below hb) (gZ.o.below hb) (lZ.o.below hb) (g3.o.below hb) (f6.o.below hb) (hv) (eR.o.trans ((hb).mono eR.o.size)) λeH fk g9 l0 gX g0 h0 g5 gT HU fu=>?_;have b7:=zab hb b2;have b9:=zab hb b5;have ch:=zab hb b6;obtain rfl:m=nU:=by rw[hv.len,zfM]
  clear hv hb;clear eD ew eE ex fw fp fB fy fC fz dU fG eL ey eJ eB eM ez eK eC fd eU eV eQ fi e5 eY eN fj e6 eZ eG ft zip fg eX ej d4 ed d7 em ea ef d9 bQ gC bT gI bX gN md b2 b5 b6;go_upto_region 14 with fail
  go_cut[7] (λrv wz=>∃(A5:OA) (c5:Nat) (l5:List Value),rv=(A5,k+1,c5)/\θ wz d.heap.size #[(),.int .i64 0,(o,k,cB),(),.int .i64 0,(),(z,k,y),(N:Int)] 118/\VecsL wz W.heap.size (A5,k+1,c5) l5 ((zt0 j a).take (k+1))/\VecS wz W.heap.size (o,k,cB) ((zwh a).take k)/\IntsZ wz W.heap.size (z,k,y) ((a.map sgI).take k)/\(∀s∈l5,∀g,s.ownBlock=some g->some g≠(Value.slice o k cB).ownBlock)/\Below W.heap.size W wz)
  case first=>as_aux_lemma =>
   go_wp2_with fail
   with_reducible refine(Rt.int (sgI (el a k)) aG.o.1 aG.o.2 _).mono ?_
   rintro e u4 ⟨g4,u,m4,x,D4,md4,cd4,rfl,hn,hb⟩;refine μ12 (zad hb eH.o) (zad hb fk.o) (g9.o.below hb) (l0.o.below hb) (gX.o.below hb) (g0.o.below hb) (h0.o.below hb) (g5.o.below hb) (gT.o.below hb) (HU.o.below hb) (hn) (fu.o.trans ((hb).mono fu.o.size)) λav aS aO hE gY g1 dX g6 gU hc HM aD=>?_;obtain⟨_,_,_,_,_,_,bq,_⟩:=bc6 av.o;obtain⟨_,_,_,_,_,_,_,_,_,_,_,cd,_,_,_,_,_,_,_,_,_,_,_,_,bN,_⟩:=bf8 aS.o;clear hn hb;go_wp2_with fail
   with_reducible refine(Vc.scaleS S cy.o g4 u m4 x D4 md4 cd4 ((sgI (el a k):Int):Rat) A3 N c3 r0 u1.heap.size _ gU.o HM.o ω gl.o cv.o).mono ?_
   rintro e u5 ⟨T5,n5,c5,rfl,hv,hb⟩;obtain rfl:N=n5:=by rw[hv.len,zfH,a3.o]
   refine μ5 hv hb (hc.o.below hb) dX.o.b.size (g6.o.b.size) λf3 cu f5 gj f2=>?_;clear hv hb;go_wp2_with (at_builtin;first | (refine zSO rfl _ _ rfl rfl f3.o rfl f5.o (N:=N+m) (by rw[zfH,a3.o]) ω cu.o.size ?_;intro R T u6 be aJ aH;have V:=un (cu.o.trans aH);have fJ:=un (show ∀g,(Value.slice R (N+m) T).ownBlock=some g->u4.heap.size<=g from λg e=>(be.lt e).1);refine μ6 (zad V.o aS.o) (hE.o.below V.o) (gY.o.below V.o) (g1.o.below V.o) (dX.o.below V.o) (show VecS u6 W.heap.size (R,N+m,T) (scale ((sgI (el a k):Int):Rat) r0++zdL m k)from(be.base gj.o)) λaY eo ep eq bE f8=>?_;clear be aJ aH) | (refine zbW rfl _ _ rfl rfl (eo.o.alloc _) rfl (zal _ _ _) (f8.o.alloc _) (n:=k) fL.o ω (by have:=bE.o.b.size;simp;omega) ?_;intro A7 c7 u7 cE cM cJ gs;refine μ3 cE cM cJ λfV a2 aU=>?_;clear cE cM cJ gs))
   go_meet
   case rel=>exact⟨A7,c7,_,rfl,a2.o.blk (zak aY.o) δ,by rw[ar.o];exact fV.o,(ep.o.alloc _).tk a2.o δ δ,(eq.o.alloc _).tk a2.o δ,(λs hs g e=>(ZT.1 hs).elim (λh=>fM.o s h g e) λh=>by rw[XF.1 h]at e;intro e2;have h1:=fJ.o g e;have h2:=fQ.o g e2.symm;have h3:=f2.o;omega),(bE.o.alloc _).b.trans aU.o⟩
  obtain⟨A5,c5,l5,rfl,D,G,E,H,cI,c⟩:=hcut;have cs:=un cI;clear cI;rename World=>wz
  refine μ8 (zad c ae.o) (HS.o.below c) ((a4.o.below c)) (G) (E) (H) (Bel.mk c) (Z.o.trans ((c).mono Z.o.size)) λav aO aW L O P I aD=>?_;obtain⟨_,_,_,_,_,_,bq,_⟩:=bc6 av.o;have F:=un D;obtain⟨_,_,_,_,_,_,_,_,_,_,_,cd,_,_,_,_,_,_,_,_,_,_,_,_,bN,_⟩:=bf8 F.o;clear D G E H c;go_upto_region 15 with fail
  go_cut[] (λwy=>∃(R:OA) (T:Nat),θ wy d.heap.size #[(),.int .i64 0,(o,k,cB),(),.int .i64 0,(),(R,k+1,T),(N:Int)] 118/\VecsL wy W.heap.size (A5,k+1,c5) l5 ((zt0 j a).take (k+1))/\VecS wy W.heap.size (o,k,cB) ((zwh a).take k)/\IntsZ wy W.heap.size (R,k+1,T) ((a.map sgI).take (k+1))/\Below W.heap.size W wy)
  case first=>as_aux_lemma =>
   go_wp2_with (at_builtin;refine zfS rfl _ _ rfl rfl (P.o.alloc (.cells #[.int .i64 (sgI (el a k))] 3)) rfl (zal _ _ _) (n:=k) fT.o ω (by have:=I.o.b.size;simp;omega) ?_;intro R T v6 cD aJ aH;refine μ4 cD aJ ((I.o.alloc _).b.trans aH) (aJ.blk (zak F.o) δ) λfU cw fN KS=>?_;obtain⟨o0,_,_,_,o1,_,_,_,o2,_,ds,_,o3,_,du,_,o4,_,_,_,o5,_,_,_,o6,_,dA,_,o7,_⟩:=bf8 KS.o;clear cD aJ aH)
   go_meet;have f:TKeep 118 v6 (v6.setCell ⟨d,6,none⟩ (R,k+1,T)):=TKeep.set KS.o _
   case rel=>exact⟨R,T,zar _ KS.o,((L.o.alloc _).tk cw.o δ δ δ).tk f δ δ δ,((O.o.alloc _).tk cw.o δ δ).tk f δ δ,by rw[a7.o];exact fU.o.tk f δ,fN.o.setCell (p:=⟨d,6,none⟩) al.o.size _⟩
  obtain⟨R,T,D,G,E,H,c⟩:=hcut;rename World=>wy
  refine μ6 (zad c ae.o) ((a4.o.below c)) (G) (E) (H) (Bel.mk c) λdY aW L O P I=>?_;obtain⟨sp,_,ss,_,pM,_,pR,_,pW,_,pF,_⟩:=bc6 dY.o;have hd:χ wy J (k*3) (.bool ga):=zab c HY.o.1;have gA:=zaa hd;have he:χ wy J (k*3+1) (Aa,ma,ca):=zab c HY.o.2.1;have gF:=zaa he;have hf:χ wy J (k*3+2) (Da,ak,ah):=zab c HY.o.2.2;have gL:=zaa hf;have F:=un D;obtain⟨sv,_,_,_,sy,_,_,_,sY,_,_,_,sZ,_,_,_,s0,_,_,_,qo,_,_,_,qt,_,_,_,qy,_⟩:=bf8 F.o;clear D G E H c;clear b7 b9 ch bq cd bN;go_wp2_with fail
  have L1:=un (show 4*(mw ((sgI (el a k):Int):Rat)+mw (el a k))+8<=LIM by have:=cv.o;have:=gn.o;have:=cy.o;omega);refine za2 (S:=λw'=>χ w' w 0 (rA,m,rc)/\χ w' w 1 (.int .i64 (N:Int))/\χ w' w 2 (J,m,bc_)/\χ w' w 3 (kA,N,kc)/\χ w' w 4 (.int .i64 (own:Int))/\χ w' w 5 (eA,m,ec)/\χ w' d 0 ()/\χ w' d 1 (.int .i64 0)/\χ w' d 2 (o,k,cB)/\χ w' d 3 ()/\χ w' d 4 (.int .i64 0)/\χ w' d 5 ()/\χ w' d 6 (R,k+1,T)/\χ w' d 7 (.int .i64 (N:Int))/\χ w' J (k*3) (.bool ga)/\χ w' J (k*3+1) (Aa,ma,ca)/\χ w' J (k*3+2) (Da,ak,ah)) 15 (h:=λhHeld=>?_);refine zaw [0,1,2,3,5,6,7,8,9] ?_;repeat refine tkE hHeld ?_
  refine zao ?_;refine zaN 4 (h:=λK A=>?_);go_simp;(go_at_call 30;(with_reducible refine(Rt.int (sgI (el a k)) aG.o.1 aG.o.2 _).mono ?_);rintro e v1 ⟨g7,A7,m7,c7,D7,md7,cd7,rfl,hn,hb⟩;refine μ8 (zad hb dY.o) (zad hb F.o) (aW.o.drew.below hb) (L.o.drew.below hb) (O.o.drew.below hb) (P.o.drew.below hb) (I.o.drew.below hb) (show RatS v1 g7 (A7,m7,c7) (D7,md7,cd7) ((sgI (el a k):Int):Rat)from hn) λd1 d2 jv jx i7 jb gR fY=>?_;obtain⟨sq,_,st,_,pN,_,pS,_,pX,_,pG,_⟩:=bc6 d1.o;obtain⟨sw,_,_,_,sz,_,_,_,s9,_,_,_,ta,_,_,_,tb,_,_,_,qp,_,_,_,qu,_,_,_,qz,_⟩:=bf8 d2.o;have dM:=zab hb gA;have dO:=zab hb gF;have dQ:=zab hb gL;clear hn hb);(try go_wp2_with fail);refine shutOn A λhHeld=>?_;clear A K;refine zaN 10 (h:=λK A=>?_);go_simp;(go_at_call 29;(with_reducible refine(Rt.mul g7 A7 m7 c7 D7 md7 cd7 ((sgI (el a k):Int):Rat) ga Aa ma ca Da ak ah (el a k) _ fY.o jv.o L1.o).mono ?_);rintro e v2 ⟨g8,q,m8,t,D8,md8,cd8,rfl,hn,hb⟩;refine μ7 (zad hb d1.o) (zad hb d2.o) (jx.o.below hb) (i7.o.below hb) (jb.o.below hb) (gR.o.below hb) (show RatS v2 g8 (q,m8,t) (D8,md8,cd8) (((sgI (el a k):Int):Rat)*el a k)from hn) λjd eh eg i8 jc er fZ=>?_;obtain⟨iK,_,iL,_,iM,_,iN,_,iO,_,iP,_⟩:=bc6 jd.o;obtain⟨pH,_,_,_,pI,_,_,_,qf,_,_,_,qi,_,_,_,ql,_,_,_,qq,_,_,_,qv,_,_,_,qA,_⟩:=bf8 eh.o;have dN:=zab hb dM;have dP:=zab hb dO;have dR:=zab hb dQ;clear hn hb);(try go_wp2_with fail);refine shutOn A λhHeld=>?_;clear A K;refine zaN 11 (h:=λK A=>?_);go_simp;refine shutOn A λhHeld=>?_;clear A K;refine zaN 12 (h:=λK A=>?_);((refine zTC (by rfl) _ _ (by rfl) (by rfl) (i8.o.alloc _) (by rfl) (zal _ _ _) (fZ.o.alloc _) (N:=k) fP.o ω (by have:=er.o.b.size;simp;omega) ?_);intro M Q v9 cH aK X cT cO cQ;refine μ7 cH ((er.o.alloc _).b.trans X) (aK.blk (zak eh.o) δ) ((eg.o.alloc _).apart aK cT cO cs.o) ((jc.o.alloc _).tk aK δ) cQ (show ∀s∈l5,∀g,s.ownBlock=some g->g<v2.heap.size from λs hs g e=>(eg.o.lt hs e).2) λgb fO a9 gc gd f0 gf=>?_;obtain⟨o0,_,_,_,o1,_,_,_,o2,_,ds,_,o3,_,du,_,o4,_,_,_,o5,_,_,_,o6,_,dA,_,o7,_⟩:=bf8 a9.o;have t0:=zKh X (show w.heap.size<W.heap.size by omega) (cell_al (ob:=.cells #[g8,(q,m8,t),(D8,md8,cd8)] 62) iK);have t1:=zKh X (show w.heap.size<W.heap.size by omega) (cell_al (ob:=.cells #[g8,(q,m8,t),(D8,md8,cd8)] 62) iL);have t2:=zKh X (show w.heap.size<W.heap.size by omega) (cell_al (ob:=.cells #[g8,(q,m8,t),(D8,md8,cd8)] 62) iM);have t3:=zKh X (show w.heap.size<W.heap.size by omega) (cell_al (ob:=.cells #[g8,(q,m8,t),(D8,md8,cd8)] 62) iN);have t4:=zKh X (show w.heap.size<W.heap.size by omega) (cell_al (ob:=.cells #[g8,(q,m8,t),(D8,md8,cd8)] 62) iO);have t5:=zKh X (show w.heap.size<W.heap.size by omega) (cell_al (ob:=.cells #[g8,(q,m8,t),(D8,md8,cd8)] 62) iP);have t6:=zKh X (show J<W.heap.size by omega) (cell_al (ob:=.cells #[g8,(q,m8,t),(D8,md8,cd8)] 62) dN);have t7:=zKh X (show J<W.heap.size by omega) (cell_al (ob:=.cells #[g8,(q,m8,t),(D8,md8,cd8)] 62) dP);have t8:=zKh X (show J<W.heap.size by omega) (cell_al (ob:=.cells #[g8,(q,m8,t),(D8,md8,cd8)] 62) dR);clear cH aK X cT cO cQ);refine shutOn A λhHeld=>?_;clear A K;refine zfQ (i:=13) (v:=?_) rfl ξ (λ_ _ _ h=>h) (Or.inl ⟨by rfl,?_⟩) ?_
  rotate_left
  ·((intro w gr;(try dsimp only at gr);go_simp);(try with_reducible rfl))
  try simp only[Act.put,pu1,pu2,pu3,pu4,pu5,pu6]
  refine zaw [14] ?_;repeat refine tkE hHeld ?_
  refine zao ?_;refine zba (h:=λK A=>?_);go_simp;refine shutOff A ?_;clear A K;refine za1 (h:=?_)
  all_goals
   go_wp2;go_roundw
   have f:TKeep 118 v9 (v9.setCell ⟨d,2,none⟩ (M,k+1,Q)):=TKeep.set a9.o _
   case rel=>exact⟨k+1,A5,c5,l5,M,Q,R,T,by go_num,rfl,ω,zar _ a9.o,gc.o.tk f δ δ δ,by rw[a6.o];exact gb.o.tk f δ δ,gd.o.tk f δ,(λs hs g e=>f0.o.elim (λh=>by rw[h];exact cs.o s hs g e) λh e2=>by have h1:=h g e2.symm;have h2:=gf.o s hs g e;simp at h1;omega),fO.o.setCell (p:=⟨d,2,none⟩) al.o.size _⟩
   case measure=>simp[intOf];omega
 obtain rfl:m=k:=ω;refine μ3 (show(zt0 j a).take m=zt0 j a by rw[Z2];rw[zTt,<-aE.o];omega) (show(zwh a).take m=zwh a by rw[Z2];rw[zUh,aF.o];omega) (show(a.map sgI).take m=a.map sgI by rw[Z2];rw[ZK,aF.o];omega) λar a6 a7=>?_;have ct:=un (show ∀r∈(zt0 j a).take m,r.length=N+m by rw[ar.o];intro r hr;obtain⟨i,hi⟩:=Xh.1 hr;have h:=(zSV (b:=a) HS.o.rect).row i (by have:=(ZF.1 hi).1;rw[zTt,<-aE.o]at this;exact this);rw[Zh,hi]at h;exact h);have gx:=HZ.o;clear bc;refine μ8 (zad c ae.o) (zad c ax.o) (HS.o.below c) (G) ((by have h:=E;rw[a6.o]at h;exact h)) ((by have h:=H;rw[a7.o]at h;exact h)) (Bel.mk c) (Z.o.trans ((c).mono Z.o.size)) λaP eW bC L O P I aQ=>?_;obtain⟨_,_,_,_,fs,_⟩:=bc6 aP.o;have F:=un D;obtain⟨_,_,_,_,_,_,_,_,_,_,_,_,_,u8,_,_,_,u9,_⟩:=bf8 F.o;clear D G E H c;go_upto_region 18 with fail
 go_cut[] (λwy=>∃(u:OA) (x:Nat) (Y:List Value),θ wy d.heap.size #[(u,m,x),((N+m:Nat):Int),(o,m,cB),(),.int .i64 0,(),(z,m,y),(N:Int)] 118/\VecsL wy W.heap.size (u,m,x) Y (zt0 j a)/\VecS wy W.heap.size (o,m,cB) (zwh a)/\IntsZ wy W.heap.size (z,m,y) (a.map sgI)/\Below W.heap.size W wy)
 case first=>as_aux_lemma =>
  go_wp2_with fail
  rw[show(N:Int)+(m:Int)=((N+m:Nat):Int)by simp];with_reducible refine(Mt.of m (N+m) aX cS rR cR l ((zt0 j a).take m) W.heap.size _ L.o ct.o).mono ?_
  rintro e v5 ⟨u,x,Y,rfl,hv4,ha4,hb⟩;refine μ10 (zad hb aP.o) (zad hb eW.o) (zad hb F.o) (bC.o.below hb) (L.o.below hb) (O.o.below hb) (P.o.below hb) (I.o.below hb) ((by have h:=hv4;rw[ar.o]at h;exact h)) (aQ.o.trans ((hb).mono aQ.o.size)) λa0 a1 bV bD en ci bP b1 f7 bS=>?_;obtain⟨eD,ew,eE,ex,fw,fp,fB,fy,fC,fz,dU,fG⟩:=bc6 a0.o;obtain⟨eL,ey,eJ,eB,eM,ez,eK,eC,fd,eU,eV,eQ,fi,e5,eY,eN,fj,e6,eZ,eG,ft,zip,fg,eX,ej,d4,ed,d7,em,ea,ef,d9⟩:=bf8 a1.o;obtain⟨uO,_,uK,_,uP,_,uG,_⟩:=bf8 bV.o;clear hv4 ha4 hb;have cZ:=al.o.size;have bf:=I.o.b.size;go_wp2;go_meet;have f:=zBa bV.o (u,m,x) ((N+m:Nat):Int)
  case rel=>exact⟨u,x,Y,zar _ (zar _ bV.o),(f7.o.base bf).tk f δ δ δ,ci.o.tk f δ δ,bP.o.tk f δ,(b1.o.b.setCell (p:=⟨d,0,none⟩) cZ _).setCell (p:=⟨d,1,none⟩) cZ _⟩
 obtain⟨u,x,Y,D,G,E,H,c⟩:=hcut;rename World=>wa
 refine μ8 (zad c ae.o) (zad c ax.o) (HS.o.below c) (G) (E) (H) (Bel.mk c) (Z.o.trans ((c).mono Z.o.size)) λav aS aO L O P I aD=>?_;obtain⟨_,_,_,_,_,_,bq,_⟩:=bc6 av.o;obtain⟨_,_,_,_,_,_,_,_,_,_,_,cd,_,_,_,_,_,_,_,_,_,_,_,_,bN,_⟩:=bf8 aS.o;have F:=un D;obtain⟨_,_,_,_,_,_,_,_,_,_,_,vs,_⟩:=bf8 F.o;clear D G E H c;go_upto_region 19 with fail
 go_cut[] (λwy=>∃(q:OA) (t:Nat),θ wy d.heap.size #[(u,m,x),((N+m:Nat):Int),(o,m,cB),(q,N+m,t),.int .i64 0,(),(z,m,y),(N:Int)] 118/\VecsL wy W.heap.size (u,m,x) Y (zt0 j a)/\VecS wy W.heap.size (o,m,cB) (zwh a)/\IntsZ wy W.heap.size (z,m,y) (a.map sgI)/\VecS wy W.heap.size (q,N+m,t) (zKb m c0)/\Below W.heap.size W wy)
 case first=>as_aux_lemma =>
  go_wp2_with fail
  with_reducible refine(Vc.copy kA N kc c0 0 _ aO.o.C ω).mono ?_
  rintro e v5 ⟨A7,c7,rfl,hv7,hb⟩;refine μ9 (zad hb aS.o) (zad hb F.o) (L.o.below hb) (O.o.below hb) (P.o.below hb) (I.o.below hb) (show VecS v5 wa (A7,N,c7) c0 from hv7) hb I.o.b.size λaY dV eo ep eq bE fS aU gh=>?_;clear hv7 hb;go_wp2_with (at_builtin;go_loud (refine zb3 rfl _ _ rfl rfl fS.o rfl (n:=m) rfl (N:=N+m) (by rw[fR.o]) ω aU.o.size ?_;intro q t v8 cX cN cK;refine μ3 cX (aU.o.trans cK) (cN.blk dV.o δ) λf9 aV KS=>?_;obtain⟨o0,_,_,_,o1,_,_,_,o2,_,ds,_,o3,_,du,_,o4,_,_,_,o5,_,_,_,o6,_,dA,_,o7,_⟩:=bf8 KS.o;clear cX cN cK))
  go_meet;have f:TKeep 118 v8 (v8.setCell ⟨d,3,none⟩ (q,N+m,t)):=TKeep.set KS.o _
  case rel=>exact⟨q,t,zar _ KS.o,(L.o.below aV.o).tk f δ δ δ,(O.o.below aV.o).tk f δ δ,(P.o.below aV.o).tk f δ,by unfold zKb;exact(f9.o.base gh.o).tk f δ δ,(I.o.below aV.o).b.setCell (p:=⟨d,3,none⟩) al.o.size _⟩
 obtain⟨q,t,D,G,E,H,aL,c⟩:=hcut;rename World=>wb
 refine μ8 (zad c ae.o) (zad c ax.o) (HS.o.below c) (G) (E) (H) (aL) (Bel.mk c) λdZ d0 gS L O P a8 I=>?_;obtain⟨so,_,sr,_,pJ,_,pO,_,pT,_,pY,_⟩:=bc6 dZ.o;have F:=un D;clear D G E H aL c;have bg:=al.o.size;go_upto_region 20 with fail
 go_cut[] (λwy=>∃(M:OA) (Q:Nat),θ wy d.heap.size #[(u,m,x),((N+m:Nat):Int),(o,m,cB),(q,N+m,t),(own:Int),(M,m,Q),(z,m,y),(N:Int)] 118/\VecsL wy W.heap.size (u,m,x) Y (zt0 j a)/\VecS wy W.heap.size (o,m,cB) (zwh a)/\IntsZ wy W.heap.size (z,m,y) (a.map sgI)/\VecS wy W.heap.size (q,N+m,t) (zKb m c0)/\IntsZ wy W.heap.size (M,m,Q) left/\Below W.heap.size W wy)
 case first=>as_aux_lemma =>
  go_wp2_with fail
  go_region_held3 (λw'=>χ w' w 0 (rA,m,rc)/\χ w' w 1 (.int .i64 (N:Int))/\χ w' w 2 (bA,m,bc_)/\χ w' w 3 (kA,N,kc)/\χ w' w 4 (.int .i64 (own:Int))/\χ w' w 5 (eA,m,ec))
   (((try go_split_ands);(try simp only[Xi]);(repeat' apply And.intro)<;>(repeat(first | with_reducible assumption | with_reducible refine cell_set ω ?_ | with_reducible refine cell_al ?_))))
   (first
    | (go_at_call 115;(with_reducible refine(Sl.clone eA m ec left 0 _ gS.o.drew.left ω).mono ?_);rintro e v1 ⟨M,Q,rfl,hv9,hb⟩;refine μ8 (zad hb dZ.o) (zad hb F.o) (L.o.drew.below hb) (O.o.drew.below hb) (P.o.drew.below hb) (a8.o.drew.below hb) (I.o.drew.below hb) (show IntsZ v1 wb (M,left.length,Q) left from hv9) λii aZ jw i6 ja i9 gQ cx=>?_;obtain⟨r6,_,r7,_,pK,_,pP,_,pU,_,pZ,_⟩:=bc6 ii.o;obtain⟨_,_,_,_,_,_,_,_,_,_,_,_,_,_,_,_,rT,_,oO,_,rU,_,oR,_⟩:=bf8 aZ.o;clear hv9 hb)
    | fail)
  all_goals
   go_wp2;go_meet;have bf:=I.o.b.size;have f:TKeep 118 v1 (v1.setCell ⟨d,4,none⟩ (own:Int)):=TKeep.set aZ.o _;have k2:TKeep 118 (v1.setCell ⟨d,4,none⟩ (own:Int)) ((v1.setCell ⟨d,4,none⟩ (own:Int)).setCell ⟨d,5,none⟩ (M,left.length,Q)):=TKeep.set (zar _ aZ.o) _;rw[fW.o]at cx k2 ⊢
   case rel=>exact⟨M,Q,zar _ (zar _ aZ.o),(jw.o.tk f δ δ δ).tk k2 δ δ δ,(i6.o.tk f δ δ).tk k2 δ δ,(ja.o.tk f δ).tk k2 δ,(i9.o.tk f δ δ).tk k2 δ δ,((cx.o.base bf).tk f δ).tk k2 δ,(gQ.o.b.setCell (p:=⟨d,4,none⟩) bg _).setCell (p:=⟨d,5,none⟩) bg _⟩
 obtain⟨M,Q,D,G,E,H,aL,cY,c⟩:=hcut;rename World=>wc
 refine μ8 (zad c ax.o) (G) (E) (H) (aL) (show IntsZ wc W.heap.size (M,m,Q) left from cY) (Bel.mk c) (Z.o.trans ((c).mono Z.o.size)) λfE L O P a8 ge I hQ=>?_;obtain⟨mA,mj,re,_,mC,ml,rf,_,mE,mm,rg,_,mG,mn,rm,_,mI,mo,rn,_,mL,mp,ro,_,iR,io,pk,_,iY,ip,pq,_⟩:=bf8 fE.o;have F:=un D;obtain⟨sd,_,_,_,sf,_,_,_,sh,_,_,_,sT,_,_,_,sV,_,_,_,sX,_,_,_,p1,_,_,_,p8,_⟩:=bf8 F.o;clear D G E H aL cY c;go_wp2;refine Zi (v:=.tuple #[.agg #[(u,m,x),((N+m:Nat):Int),(o,m,cB),(q,N+m,t),(own:Int),(M,m,Q),(z,m,y),(N:Int)],.nilIface]) (by simp[results,results46,go_sem,mA,mj,mC,ml,mE,mm,mG,mn,mI,mo,mL,mp,iR,io,iY,ip]) rfl ?_;have f:=zYl fE.o (u,m,x) ((N+m:Nat):Int) (o,m,cB) (q,N+m,t) (own:Int) (M,m,Q) (z,m,y) (N:Int);have gu:∀r∈zt0 j a,r.length=N+m:=by have h:=ct.o;rw[ar.o]at h;exact h
 exact⟨u,x,Y,o,cB,q,t,M,Q,z,y,rfl,⟨(L.o.base (Zb _)).tk f δ δ δ,gu,(O.o.base (Zb _)).tk f δ δ,(a8.o.base (Zb _)).tk f δ δ,(ge.o.base (Zb _)).tk f δ,aX,cS,zXc aT.o cA.o,zXd cC.o,zXe aT.o gm.o,aT.o⟩,(P.o.base (Zb _)).tk f δ,bsc (bsc (bsc (bsc (bsc (bsc (bsc (bsc hQ.o)))))))⟩
