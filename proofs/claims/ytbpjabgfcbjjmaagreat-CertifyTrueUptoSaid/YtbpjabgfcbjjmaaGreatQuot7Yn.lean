/- Contracts and lemmas: Quot7 Quot10 Gcd1 Gcd2 Int1 Int2 Int3 Int4 Int5 Rat1 Rat2 Rat3 Vec1 Vec2 Vec3 Rat4. Conditions: as each says. -/
import Derived.Test.YtbpjabgfcbjjmaaGreatProd2Yn
import Derived.Deep.LoopGhost
set_option linter.all false
set_option maxHeartbeats 20000000
set_option maxRecDepth 100000
namespace Go.Proofs.YtbpjabgfcbjjmaaGreat
open Go.RowKit Am Tryz
attribute [local go_sem ↓] Go.wp_at_zero Go.wp_at_succ
namespace Qt
def zJH(s:Value)(xs:List Nat)(w:World)(a:SW w s xs):Calls prog 139 #[.agg #[s]] w λe w'=>e=.returned (xs.length:Int)/\Below w w w' :=
 (Nt.len s xs w a).mono λe w' h=>⟨h.1,by rw[h.2];simp[zae]⟩
def zBr(s:Value)(xs:List Nat)(k x:Nat)(K:Int)(a:K=(k:Int))(w:World)(b:SW w s xs)(c:wd xs k=x):Calls prog 170 #[.agg #[s],.int .i64 K] w λe w'=>e=.returned (.int .u64 (x:Int))/\Below w w w':=by subst a;exact(Nt.word s xs k (Zg _) w b).mono λe w' h=>⟨by rw[h.1,<-c];rfl,by rw[h.2];simp[zae]⟩
def zH4(x s:Nat)(c:x<18446744073709551616)(b:64-blen x=s)(w:World):Calls prog 187 #[.int .u64 x] w λe w'=>e=.returned (s:Int)/\Below w w w' :=
 (Word.lead x c w).mono λe w' h=>by grind[zap]
def zvm(W:World)(g n c k:Nat)(K:Int)(b:K=(k:Int))(h1:k<=c)(a:0<c) :
  (Instr.slice 56 (g,n,c) none (some (.int .i64 K)) none).run prog W=.ok (g,k,c) W:=by grind[Pr.run_upto]
def ztS{V a W b:World}{f i:Value}{xs:List Nat}{H n m:Nat}(o:Below V V a)(s:(wcells xs).length=m)(c:b.ownsRow H 206 1 i (n+2) (wcells (xs++[0,0])))(q:W.grownBy b f.ownBlock)
  (l:W.ownsRow H 206 1 f n (wcells xs)) (d:Below a a W) (t:n+([0,0]:List Nat).length=n+2) (e:V.heap.size<=a.heap.size) (j:V.heap.size<=H) :
  ∃g p,i=.slice (some ⟨g,0,none⟩) (n+2) p/\n+2<=p/\V.heap.size<=g/\b.ownsRow H 206 1 (.slice (some ⟨g,0,none⟩) (n+2) p) (n+2) (wcells (xs++[0,0]))/\Below V V b:=by
 obtain⟨g,p,rfl,r,hg⟩:=zxt c ω;refine⟨g,p,rfl,r,ω,c,?_⟩;exact(o.trans (d.mono e)).grown q (Zf e d.size) (λk hk=>Zf j (l.lt k hk).1)
def zDD(u2 u1 u0 v1 v0:Nat)(w:World)(a:u2<=v1)(h1:u1<18446744073709551616)(h0:u0<18446744073709551616)(c:9223372036854775808<=v1)(f:v1<18446744073709551616)(d:v0<18446744073709551616) :
  Calls prog 189 #[.int .u64 (u2:Int),.int .u64 (u1:Int),.int .u64 (u0:Int),.int .u64 (v1:Int),.int .u64 (v0:Int)] w λe w'=>∃q:Nat,e=.returned (.int .u64 (q:Int))/\GuessIs u2 u1 u0 v1 v0 q/\Below w w w' :=
 (guess u2 u1 u0 v1 v0 w a h1 h0 c f d).mono λe w' h=>by grind[zap]
theorem zr4(A B:OA)(m c m' c' a b:Nat)(w:World)(ha:zas w (A,m,c) a)(hb:zas w (B,m',c') b)(R:¬wlen b<=1)(hle:b<=a)(cw:wlen a+1<=LIM) :
    Calls prog 182 #[.agg #[(A,m,c)],.agg #[(B,m',c')]] w (zv4 w (a/b) (a%b) true):=by
  obtain⟨ys,hy,cn,cC,cy,hm⟩:=hb.words;subst hm;refine μ3 ha hb hy λHA bG HY=>?_;have eE:¬(ys.length:Int)<=1:=ω;have a6:=un cy;have dh:=un cC;clear ha hb hy cy cC;have W0:∃W,W=(((w.alloc (.cells #[(A,m,c)] 58)).alloc (.cells #[(B,ys.length,c')] 58)).alloc (.cells #[()] 58)).alloc (.cells #[()] 58):=⟨_,rfl⟩
  obtain⟨W,J⟩:=W0;have hz:W.heap.size=w.heap.size+1+1+1+1:=by rw[J];simp
  have i:χ W w 0 (A,m,c):=by rw[J];exact cell_al (cell_al (cell_al (zax rfl rfl)))
  have k1:χ W (w.heap.size+1) 0 (B,ys.length,c'):=by rw[J];exact cell_al (cell_al (zax σ rfl))
  have r2:θ W (w.heap.size+1+1) #[()] 58:=by rw[J];exact zak (zam σ)
  have r3:θ W (w.heap.size+1+1+1) #[()] 58:=by rw[J];exact zam σ
  have hB:Below w w W:=by rw[J];exact(((zae w _).alloc σ _).alloc (by simp;omega) _).alloc (by simp;omega) _
  refine μ7 (HA.o.below hB) (bG.o.below hB) (HY.o.below hB) r2 r3 hB hz λF NB I P Q C O=>?_;clear r2 r3 hB hz HA bG HY;go_enter func182,ntmps182;go_wp2_with fail
  rw[<-J];clear J;refine(Nt.len (B,ys.length,c') ys _ I.o).mono ?_;rintro e w' ⟨rfl,rfl⟩;have i:=cell_al (ob:=.cells #[(B,ys.length,c')] 58) i;have k1:=cell_al (ob:=.cells #[(B,ys.length,c')] 58) k1;go_wp2_with fail
  refine(Nt.cmp A B m c ys.length c' a b _ (F.o.alloc _) (NB.o.alloc _)).mono ?_;rintro e l ⟨rfl,hb2⟩;have E:Below W.heap.size W l:=((zae W _).trans (hb2.mono σ))
  have i:=zab hb2 i;have k1:=zab hb2 k1;refine μ7 (F.o.below E) (NB.o.below E) (I.o.below E) (zad E P.o) (zad E Q.o) (C.o.trans (E.mono (by have:=O.o;omega))) (show w.heap.size+4<=l.heap.size by have:=O.o;have:=E.size;omega) λF NB I P Q C O=>?_;clear hb2 E;have d1:¬ze9 (a:Int) (b:Int)<0:=by rcases ZM b a with h | h;rw[zea ω];omega;rw[zgN ω];omega
  obtain⟨cv,aF⟩:∃cv,cv=ze9 (a:Int) (b:Int):=⟨_,rfl⟩
  rw[<-aF]at d1 ⊢;clear aF;go_wp2_with fail
  obtain⟨top,aI⟩:∃top,wd ys (ys.length-1)=top:=⟨_,rfl⟩
  obtain⟨s,hs⟩:∃s,64-blen top=s:=⟨_,rfl⟩
  have bW:=un aI;have bT:=un hs;obtain⟨L,bg⟩:∃L,ys.length=L+1:=⟨ys.length-1,by have:=a6.o;omega⟩
  have X:=un (show(b*2^s<B64^(L+1)/\2^63*B64^L<=b*2^s)/\1<=L/\L+1<=wlen a by
    have h0:0<top:=by rw[<-aI];exact Ye (zoq cn ω)
    have h1:=zqo (L:=L) (top:=top) (s:=s) I.o.2 bg (by rw[<-aI,bg];rfl) h0 hs;rw[dh.o]at h1;have h2:=a6.o;have h3:=zco hle;exact⟨h1,ω,ω⟩)
  clear bg;have dw:=un (show top<18446744073709551616 by rw[<-aI];exact zdM I.o.2 _);have dX:2<=ys.length:=by have:=a6.o;omega
  have db:=un dX;have eF:ys.length<=9223372036854775807:=I.o.len_le;have ce:IntKind.i64.wrap ((ys.length:Int)-1)=((ys.length-1:Nat):Int):=by rw[XC _ ω];omega
  refine μ4 ce (show wlen a<=LIM by omega) cw hle λda aO bN dd=>?_;clear aI hs ce cw hle R;have HS:=un (show ∀w',Below l l w'->((χ w' w 0 (A,m,c)/\χ w' (w.heap.size+1) 0 (B,ys.length,c'))/\Below l l w')from λw' h=>⟨⟨zab h i,zab h k1⟩,h⟩);go_cut[10] (λen wr=>en=.int .i64 (s:Int)/\Below l l wr)
  case first =>
    go_region_held3 (λw'=>((χ w' w 0 (A,m,c)/\χ w' (w.heap.size+1) 0 (B,ys.length,c'))/\Below l l w'))
      ((refine HS.o _ ?_;repeat(first | exact Zl _ _ | exact(by assumption:_/\Below _ _ _).2 | with_reducible refine bdrew ?_ | with_reducible refine al2 ?_ _ | with_reducible refine set2 ?_ ω | with_reducible refine zc1 ?_ (by assumption))))
      (first
        | (go_at_call 139;(with_reducible refine(zJH (B,ys.length,c') ys _ (I.o.below (by assumption:_/\Below _ _ _).2)).mono ?_);rintro e u1 ⟨rfl,R⟩;have ee:=R.size;(try simp at ee);have eG:l.heap.size<=u1.heap.size:=ω)
        | (go_at_call 170;(with_reducible refine(zBr (B,ys.length,c') ys (ys.length-1) top (IntKind.i64.wrap ((ys.length:Int)-1)) da.o _ (I.o.below (by assumption:_/\Below _ _ _).2) bW.o).mono ?_);rintro e u2 ⟨rfl,hb2⟩;have ef:=hb2.size;(try simp at ef);have eH:l.heap.size<=u2.heap.size:=ω)
        | (go_at_call 187;(with_reducible refine(zH4 top s dw.o bT.o _).mono ?_);rintro e u3 ⟨rfl,hb3⟩;have eg:=hb3.size;(try simp at eg);have eI:l.heap.size<=u3.heap.size:=ω))
    all_goals
      go_wp2;go_meet
      case rel=>exact⟨rfl,(by assumption:_/\Below l l _).2⟩
  obtain⟨rfl,g⟩:=hcut;rename World=>w3
  have i:=zab g i;have k1:=zab g k1;refine μ7 (F.o.below g) (NB.o.below g) (I.o.below g) (zad g P.o) (zad g Q.o) (C.o.trans (g.mono (by have:=O.o;omega))) (show w.heap.size+4<=w3.heap.size by have:=O.o;have:=g.size;omega) λF NB I P Q C O=>?_;clear g HS
  have cJ:s<64:=by
    rw[<-bT.o];have h0:0<top:=by rw[<-bW.o];exact Ye (zoq cn (by have:=db.o;omega))
    have:=zhl h0;omega
  have aw:=un cJ;have cx:wlen b<=LIM:=Zf (zco dd.o) aO.o;have dc:=un cx;clear cJ cx;go_wp2_with fail
  refine(Nt.shl B ys.length c' b s _ NB.o aw.o dc.o).mono ?_;rintro e T ⟨Av,mv,cv',rfl,hv4,hb4⟩;have cW:=cell_al (ob:=.cells #[(Av,mv,cv')] 58) (zab hb4 i);have bY:=un (hv4.alloc (.cells #[(Av,mv,cv')] 58));have E:Below w3 w3 (T.alloc (.cells #[(Av,mv,cv')] 58)):=hb4.trans (zae T _ |>.mono hb4.size);refine μ3 (F.o.below E) hb4.size E λb4 b3 HV=>?_;clear hv4 hb4 E k1;go_wp2_with fail
  refine(Nt.shl A m c a s _ b4.o aw.o aO.o).mono ?_;rintro e y ⟨As,ms,cs,rfl,hs5,hb5⟩;have aD:Below w3 w3 (y.alloc (.cells #[(As,ms,cs)] 58)):=(HV.o.trans (hb5.mono HV.o.size)).trans ((zae y _).mono (Zf HV.o.size hb5.size));have aY:Below (T.alloc (.cells #[(Av,mv,cv')] 58)).heap.size (T.alloc (.cells #[(Av,mv,cv')] 58)) (y.alloc (.cells #[(As,ms,cs)] 58)):=hb5.trans ((zae y _).mono hb5.size);have i:χ (y.alloc (.cells #[(As,ms,cs)] 58)) w 0 (A,m,c):=zab aY cW;have kv:θ (y.alloc (.cells #[(As,ms,cs)] 58)) T.heap.size #[(Av,mv,cv')] 58:=zad aY (zam rfl);have ks:χ (y.alloc (.cells #[(As,ms,cs)] 58)) y 0 (As,ms,cs):=zax rfl rfl;refine μ8 (F.o.below aD) (bY.o.below aY) (hs5.alloc (.cells #[(As,ms,cs)] 58)) (zad aD P.o) (zad aD Q.o) (C.o.trans (aD.mono (by have:=O.o;omega))) (show w.heap.size+4<=T.heap.size/\T.heap.size<y.heap.size/\(y.alloc (.cells #[(As,ms,cs)] 58)).heap.size=y.heap.size+1 by have:=O.o;have:=b3.o;have:=hb5.size;simp at this;simp;omega) kv λF NV NS P Q C dD KV=>?_;clear cW aD aY hb5 hs5 kv bY b4 HV NB I O b3;go_wp2_with fail
  generalize hq1:T.heap.size=gv at *
  generalize hq2:y.heap.size=gs at *
  generalize y.alloc (.cells #[(As,ms,cs)] 58)=V at *
  clear hq1 hq2;have bZ:=un (show ∀k,(Value.slice Av mv cv').ownBlock=some k->k<V.heap.size by obtain⟨zs,hz,_⟩:=NV.o;exact λk hk=>hz.block hk);obtain⟨d,cK,d0,d8,aE,d5⟩:=F.o.words;subst d5;obtain⟨xs,cL,d3,cB,bp,d7⟩:=NS.o.words;subst d7;have cS:xs.length<=d.length+1:=by rw[bp,aE];have h1:=zdy a (2^s);have h2:wlen (2^s)<=1:=zdl (XR (Xq (show 0<2 by decide) (Nat.le_of_lt_succ aw.o)) δ);omega
  have cT:d.length<=xs.length:=by rw[bp,aE];exact zco (Nat.le_mul_of_pos_right a (Z3 δ))
  have cl:d.length<=LIM:=by rw[aE];exact aO.o
  refine μ8 cL cK aE cB cS cT cl (show xs.length<=LIM by have:=bN.o;omega) λSA SN aK dg dC bc a1 SL=>?_;have dY:d.length<=9223372036854775800:=by have:=zaP;omega
  have cZ:=un (show IntKind.i64.wrap ((d.length:Int)+1)=((d.length+1:Nat):Int)by rw[XC _ ω];omega);clear cK d0 d8 aE cL d3 cB bp cS cT cl;have ej:χ V.drew w 0 (A,d.length,c):=i;have ei:χ (V.alloc (.cells #[.int .u64 0,.int .u64 0] 206)).drew w 0 (A,d.length,c):=cell_al i;have el:χ V.drew gs 0 (As,xs.length,cs):=ks;have ek:χ (V.alloc (.cells #[.int .u64 0,.int .u64 0] 206)).drew gs 0 (As,xs.length,cs):=cell_al ks;have bh:Below V V (V.alloc (.cells #[.int .u64 0,.int .u64 0] 206)).drew:=(zae V _).drew;go_cut[15] (λeo wr=>∃(H cu:Nat),eo=(H,d.length+1,cu)/\d.length+1<=cu/\V.heap.size<=H/\wr.ownsRow H 206 1 (H,d.length+1,cu) (d.length+1) (wcells ((xs++[0,0]).take (d.length+1)))/\Wds xs/\Below V V wr)
  case first =>
    go_region_law (first
      | (refine znT (by rfl) 173 func173 ξ (by rfl) _ _ (by rfl) _ (by rfl) (Nt.wordsF As xs.length cs xs _ (by first | exact SA.o.drew | exact (SA.o.alloc _).drew) SL.o) ?_;rintro e w6 ⟨A6,m6,c6,rfl,hO6,hW6,hb6⟩;refine ⟨_,rfl,?_⟩;
         refine μ5 hO6 hb6.size (show V.heap.size<=w6.heap.size from(by first | exact Zf σ hb6.size)) hW6 (show Below V V w6 by first | exact(zap V 1).trans (hb6.mono (by first | exact Za _ | (simp;done))) | exact bh.trans (hb6.mono bh.size)) λav bD c0 dy bC=>?_;
         have eh:=zab bC.o i;have eL:=cell_al (ob:=.cells #[.int .u64 0,.int .u64 0] 206) eh;try(have L6:∀j u,(wcells [0,0])[j]? = some u->w6.cell? ((⟨V,0,none⟩:Addr).add j)=some u:=λj u hu=>(Below.cell hb6 (Yg (V.alloc (.cells #[.int .u64 0,.int .u64 0] 206)) _ (zH5 V V.heap.size rfl j u hu))).trans (zH5 V V.heap.size rfl j u hu)))
      | ((refine zo4 (by rfl) _ _ (by rfl) (by first | exact av.o.alloc _ | exact av.o) (by rfl) (by rfl) (xs:=[0,0]) (by rfl) (by first | exact zH5 _ _ (by rfl) | exact L6) (by have:=SL.o;have:=zaP;simp;omega) (by first | exact bD.o | exact Zf bD.o σ) ?_;rintro v7 w7 ch cq;have hq:=ztS bC.o av.o.1 ch cq (by first | exact av.o.alloc _ | exact av.o) (by first | exact zae _ _ | exact Zl _ _) (by rfl) c0.o (by first | exact Za _ | simp);obtain⟨H7,p7,rfl,eC,cb,aB,aZ⟩:=hq;refine μ3 aB aZ cb λa7 bE c9=>?_;have eM:=zab aZ i;have dK:=un (SN.o.below aZ);have cD:d.length+1<=p7:=(by have:=bc.o;omega);have eD:=λW=>zvm W H7 (xs.length+2) p7 (d.length+1) (IntKind.i64.wrap ((d.length:Int)+1)) cZ.o cD ω;clear ch cq aB aZ cb))
      | (refine znT (by rfl) 139 func139 ξ (by rfl) _ _ (by rfl) _ (by rfl) (zJH (A,d.length,c) d _ dK.o) ?_;rintro e w8 ⟨rfl,hb8⟩;refine⟨_,rfl,?_⟩;have bF:=un hb8;clear hb8))
    all_goals
      go_wp2;go_meet
      case rel=>exact⟨H7,p7,rfl,cD,c9.o,zxv (zfF a7.o bF.o) (by have:=bc.o;omega),dy.o,bE.o.trans (bF.o.mono bE.o.size)⟩
  obtain⟨H,cu,rfl,d2,cd,hO,ci,g⟩:=hcut;rename World=>Y
  have KV:=un (zad g KV.o);have i:=zab g i;refine μ8 (SN.o.below g) (NV.o.below g) (zad g P.o) (zad g Q.o) (C.o.trans (g.mono C.o.size)) hO ci (show V.heap.size<=H/\V.heap.size<=Y.heap.size by exact⟨cd,g.size⟩) λF NV P Q C HO dB dt=>?_;clear g hO ci cd SA SN NS ej ei el ek ks bh;obtain⟨vs,bm,aF,bj,ec,d6⟩:=NV.o.words;subst d6;have cA:=zxq bm.2 aF bj X.o.1.1 X.o.1.2;refine μ3 bm cA bj λSV ak aT=>?_;have bk:=zA6 bc.o dC.o;rw[dg.o]at bk;have cR:Wds ((xs++[0,0]).take (d.length+1)):=(dB.o.append (by intro z hz;simp at hz;subst hz;decide)).take _;generalize (xs++[0,0]).take (d.length+1)=us at *
  have aQ:=un bk;have dA:=un cR;clear bm aF bj ec cA bk cR;have em:=zac KV.o 0;simp only[Xd,Z8]at em;go_wp2_with fail
  refine(Nt.len (Av,vs.length,cv') vs _ SV.o).mono ?_;rintro e w' ⟨rfl,rfl⟩;have i:=cell_al (ob:=.cells #[(Av,vs.length,cv')] 58) i;go_wp2_with fail
  refine(Nt.len (A,d.length,c) d _ (F.o.alloc _)).mono ?_;rintro e w' ⟨rfl,rfl⟩;have ed:vs.length<=d.length:=by have:=ak.o.1;have:=X.o.2.2;have:=aK.o;omega
  obtain⟨nq,d9⟩:∃nq,nq=d.length-vs.length+1:=⟨_,rfl⟩
  have au:=un (show nq+vs.length=d.length+1 by omega);have cf:wrap64 (wrap64 ((d.length:Int)-(vs.length:Int))+1)=(nq:Int):=by unfold wrap64;omega
  have de:=un cf;have ea:nq<=16*LIM:=by have:=a1.o;have:=zaP;omega
  have aP:=un ea;clear d9 cf ed;have cj:Below Y Y ((Y.alloc (.cells #[(Av,vs.length,cv')] 58)).alloc (.cells #[(A,d.length,c)] 58)):=(zae Y _).alloc σ _;generalize (Y.alloc (.cells #[(Av,vs.length,cv')] 58)).alloc (.cells #[(A,d.length,c)] 58)=Z at *
  have aa:=un cj;clear cj i;go_wp2_with (at_make;go_must (refine zdz rfl _ _ rfl nq _ rfl rfl de.o aP.o Z.heap.size rfl ?_))
  intro w1 ho
  have hD:DS w w1 H Z.heap.size gv d.length nq cu us (List.replicate nq 0) vs Av cv' :=
    ⟨zfF (zfF HO.o aa.o) ho.bel,ho.own,zad ho.bel (zad aa.o KV.o),(SV.o.below aa.o).below ho.bel,zad ho.bel (zad aa.o P.o),zad ho.bel (zad aa.o Q.o),(C.o.trans (aa.o.mono C.o.size)).trans (ho.bel.mono (Zf C.o.size aa.o.size))⟩
  have hF:DF w H Z.heap.size gv (Av,vs.length,cv'):=by have h1:=dt.o;have h2:=(HO.o.lt H rfl).2;have h3:=aa.o.size;have h4:=dD.o;exact⟨ω,ω,ω,λe=>by have:=bZ.o _ e;omega,λe=>by have:=bZ.o _ e;omega⟩
  have HD:=un hD;have U:=un hF;clear ho hD hF;generalize Z.heap.size=G at *
  have hI:LdInv (a*2^s) (nval vs) us (List.replicate nq 0) nq:=by refine⟨dA.o,Wds.replicate nq,by rw[zbK,aQ.o.1];simp,?_,λj _=>by rw[Zh,Z9];split<;>rfl⟩;have h1:=zw3 (us:=us) (vs:=vs) (a:=a) (s:=s) (n:=d.length) (L:=L) aQ.o.2 aQ.o.1 (by rw[aK.o];exact zfD a) aw.o (by have:=X.o.2.2;have:=aK.o;omega) (by rw[aT.o];exact X.o.1.2);rw[show nq=d.length-L by have:=au.o;have:=ak.o.1;omega];exact h1
  have o:=un hI;clear hI;go_wp2_with fail
  go_loopw [18] (λkv wr=>∃(k:Nat) (f qs:List Nat),kv=.int .i64 ((k:Int)-1)/\k<=nq/\f.length=d.length+1/\qs.length=nq/\LdInv (a*2^s) (nval vs) f qs k/\DS w wr H G gv d.length nq cu f qs vs Av cv')
    (λkv _=>(intOf kv+1).toNat)
  case atStart =>
    have h1:wrap64 ((nq:Int)-1)=(nq:Int)-1:=by have:=aP.o;have:=zaP;unfold wrap64;omega
    exact⟨nq,us,List.replicate nq 0,by rw[h1],Za _,aQ.o.2,ZQ,o.o,HD.o⟩
  obtain⟨k,f,qs,rfl,hk,cP,cH,hI,hD⟩:=hrel;refine μ4 hI hD cP cH λo HD N M=>?_;clear hI hD cP cH;rcases k with _ | k
  · have co:=unshift (a:=a) (b:=b) (s:=s) (q:=nval qs) (r:=nval f) (by have:=o.o.eq;rw[aT.o]at this;exact this) (by have:=o.o.lt;rw[YA,aT.o]at this;exact this);have bK:=un co
    have cI:wlen (nval f)<=LIM:=by have h1:=o.o.lt;rw[YA,aT.o]at h1;have h2:wlen (nval f)<=L+1:=zaZ (Nat.lt_trans h1 X.o.1.1);have:=X.o.2.2;have:=aO.o;omega
    have ds:=un cI;clear co cI;go_wp2_with fail
    refine(Nt.of _ qs _ (HD.o.swQ M.o o.o.wq).reads (by rw[M.o];have:=au.o;have:=ak.o.1;have:=a1.o;omega)).mono ?_;rintro e l ⟨A2,m2,c2,rfl,hq2,hb2⟩;have aL:=un (HD.o.step hb2);have dm:=un hq2;clear hq2 hb2;go_wp2_with fail
    refine(Nt.of _ f _ (aL.o.swU N.o o.o.wu).reads (by rw[N.o,aK.o];exact bN.o)).mono ?_;rintro e w3 ⟨A3,m3,c3,rfl,hr3,hb3⟩;refine μ3 (aL.o.step hb3) (dm.o.below hb3) hr3 λar dn dq=>?_;clear hr3 hb3;go_wp2_with fail
    refine(Nt.shr A3 m3 c3 (nval f) s _ dq.o aw.o ds.o).mono ?_;rintro e T ⟨A4,m4,c4,rfl,aH,hb4⟩;refine μ3 (ar.o.step hb4) (dn.o.below hb4) aH λD dp dr=>?_;clear aH hb4;have g3:=zac D.o.r2 0;have g4:=zag D.o.r2 0;have g5:=zac D.o.r3 0;have g6:=zag D.o.r3 0;simp only[Xd,Z8]at g3 g5;go_wp2;refine Zi (v:=.tuple #[.agg #[(A2,m2,c2)],.agg #[(A4,m4,c4)],true]) (by simp[results,results182,go_sem,g3,g5]) rfl ?_;have cF:=dp.o;have aH:=dr.o;rw[bK.o.1]at cF;rw[bK.o.2]at aH;exact⟨_,_,_,_,_,_,rfl,zas.setBox (zas.setBox cF (Box.of D.o.r2)) (Box.set (Box.of D.o.r3)),zas.setBox (zas.setBox aH (Box.of D.o.r2)) (Box.set (Box.of D.o.r3)),bsc (bsc D.o.bel)⟩
  have J:=zvB o.o.wu SV.o.2 o.o.lt (by have:=N.o;have:=au.o;omega);have aV:=un J;have HK:=un (show k+vs.length<=d.length by have:=au.o;omega);have e1:((k+1:Nat):Int)-1=(k:Int):=ω;simp only[e1];clear J e1;go_wp2_with fail
  have bo:2<=vs.length:=by have:=ak.o.1;have:=X.o.2.1;omega
  have dZ:=dY;obtain⟨x,bn⟩:∃t,t=k+vs.length:=⟨_,rfl⟩
  obtain⟨t1,cN⟩:∃t,t=k+vs.length-1:=⟨_,rfl⟩
  obtain⟨t0,cM⟩:∃t,t=k+vs.length-2:=⟨_,rfl⟩
  obtain⟨S,a0⟩:∃t,t=vs.length-1:=⟨_,rfl⟩
  obtain⟨m0,cz⟩:∃t,t=vs.length-2:=⟨_,rfl⟩
  have d4:=HK.o;have q2:x<d.length+1:=ω;have q1:t1<d.length+1:=ω;have q0:t0<d.length+1:=ω;have qk:k<nq:=by have:=au.o;omega
  refine μ5 (show IntKind.i64.wrap ((k:Int)+(vs.length:Int))=(x:Int)by rw[XC _ ω];omega) (show IntKind.i64.wrap ((x:Int)-1)=(t1:Int)by rw[XC _ ω];omega) (show IntKind.i64.wrap ((x:Int)-2)=(t0:Int)by rw[XC _ ω];omega) (show IntKind.i64.wrap ((vs.length:Int)-1)=(S:Int)by rw[XC _ ω];omega) (show IntKind.i64.wrap ((vs.length:Int)-2)=(m0:Int)by rw[XC _ ω];omega) λW2 W1 W0 X1 X0=>?_;have cp:wd f x<=wd vs S:=by rw[bn,a0];exact aV.o.top o.o.wu SV.o.2 bo
  have ct:9223372036854775808<=wd vs S:=by rw[a0,ak.o.1];exact ak.o.2
  refine μ9 cp ct bn cN cM a0 cz bo qk λc8 bL bU dv du bO df bX K=>?_;clear cp ct;have D0:DS w wr.drew H G gv d.length nq cu f qs vs Av cv':=HD.o.step (zap wr 1);have bH:=un D0;have dT:=D0.cellU N.o q2;have dS:=D0.cellU N.o q1;have dR:=D0.cellU N.o q0;have cV:=D0.cellV;have i2:(x:Int)<(d.length:Int)+1:=ω;have i1:(t1:Int)<(d.length:Int)+1:=ω;have i0:(t0:Int)<(d.length:Int)+1:=ω;have ik:(k:Int)<(nq:Int):=ω;refine μ3 q2 q1 q0 λdJ et es=>?_;clear D0 bn cN cM a0 cz bo d4 q2 q1 q0 qk dZ;have eQ:=W2.o;have eP:=W1.o;have eO:=W0.o;have eU:=X1.o;have eT:=X0.o;refine μ4 (zdM o.o.wu t1) (zdM o.o.wu t0) (zdM SV.o.2 S) (zdM SV.o.2 m0) λdG dF dI dH=>?_;go_cut[] (λer=>∃(q:Nat),GuessIs (wd f x) (wd f t1) (wd f t0) (wd vs S) (wd vs m0) q/\DS w er H G gv d.length nq cu f (qs.set k q) vs Av cv')
  case first =>
    have eA:H<G:=U.o.hg;have eB:gv<G:=Nat.lt_trans U.o.gh U.o.hg
    go_region_held3 (λw'=>χ w' H x (.int .u64 ((wd f x:Nat):Int))/\χ w' H t1 (.int .u64 ((wd f t1:Nat):Int))/\χ w' H t0 (.int .u64 ((wd f t0:Nat):Int))/\χ w' gv 0 (Av,vs.length,cv'))
      (((try go_split_ands);(try simp only[Xi]);(repeat' apply And.intro)<;>(first | assumption | exact zab R (by assumption) | exact zab hb2 (by assumption) | exact zab hb3 (by assumption) | exact cell_set ω (by assumption))))
      (first
        | (go_at_call 170;(with_reducible refine(zBr (Av,vs.length,cv') vs S (wd vs S) (S:Int) rfl _ bH.o.sv rfl).mono ?_);rintro e y1 ⟨rfl,R⟩;have bI:=un (bH.o.step R))
        | (go_at_call 170;(with_reducible refine(zBr (Av,vs.length,cv') vs m0 (wd vs m0) (m0:Int) rfl _ bI.o.sv rfl).mono ?_);rintro e y2 ⟨rfl,hb2⟩;have aL:=un (bI.o.step hb2))
        | (go_at_call 189;(with_reducible refine(zDD (wd f x) (wd f t1) (wd f t0) (wd vs S) (wd vs m0) _ c8.o dG.o dF.o bL.o dI.o dH.o).mono ?_);rintro e y3 ⟨q,rfl,al,hb3⟩;have ar:=un (aL.o.step hb3);have aN:=un al;have cQ:=ar.o.cellQ M.o K.o;have fQ:=ar.o.q.frozenAt k;clear al))
    all_goals
      go_wp2;go_meet
      case rel=>exact⟨q,aN.o,ar.o.setQ U.o k q⟩
  obtain⟨q,al,ca⟩:=hcut;rename World=>y4
  have cr:GuessIs (wd f (k+vs.length)) (wd f (k+vs.length-1)) (wd f (k+vs.length-2)) (wd vs (vs.length-1)) (wd vs (vs.length-2)) q:=by have:=al;rw[bU.o,dv.o,du.o,bO.o,df.o]at this;exact this
  have aN:=un cr;have cG:q<18446744073709551616:=al.lt;have bQ:=un cG;have D4:DS w y4.drew H G gv d.length nq cu f (qs.set k q) vs Av cv':=ca.step (zap y4 1);have D:=un D4
  have dP:χ y4.drew G k (.int .u64 (q:Int)):=by
    have h:=D4.cellQ (by rw[ZW];exact M.o) K.o;have e:wd (qs.set k q) k=q:=by unfold wd;rw[zcU _ _ _ _ (by rw[M.o];exact K.o),if_pos rfl]
    rw[e]at h;exact h
  have dU:=D4.cellV;refine μ3 (D4.outC N.o) (show k+vs.length+1<=cu by have:=HK.o;omega) (show IntKind.i64.wrap ((x:Int)+1)=((k+vs.length+1:Nat):Int)by have:=dJ.o;have:=bU.o;rw[XC _ ω];omega) λdj ap b1=>?_;have aG:=λW=>zvl W H (d.length+1) cu k (k+vs.length+1) (IntKind.i64.wrap ((x:Int)+1)) b1.o ω ap.o (by have:=ap.o;omega)
  rw[show k+vs.length+1-k=vs.length+1 by omega]at aG;refine μ4 (show k+vs.length<d.length+1 by have:=HK.o;omega) (show vs.length+1<=cu-k by have:=ap.o;omega) (show d.length+1<=2*LIM by have:=a1.o;have:=zaP;omega) U.o.vh λa9 dx bV b0=>?_;clear al cr ca D4 cG dT dS dR cV d2;go_wp2_with fail
  go_region_with (go_at_call 190;(with_reducible refine(take y4.drew y4.drew H (d.length+1) cu k (cu-k) q f vs Av cv' dj.o D.o.sv b0.o o.o.wu bQ.o a9.o dx.o bV.o).mono ?_);rintro e y5 ⟨bb,us2,rfl,hbb,hO5,hw5,hs5,he5⟩;refine μ4 hO5 hw5 hs5 he5 λdi aU aR a2=>?_;clear hO5 hw5 hs5 he5)
  all_goals
    have D5:=D.o.ofOut U.o di.o;refine μ5 D5 (show us2.length=d.length+1 by rw[aR.o.1];exact N.o) (show k<qs.length by rw[M.o];exact K.o) (show k<=f.length by rw[N.o];have:=a9.o;omega) (show 9223372036854775808<=wd vs (vs.length-1)by rw[<-bO.o];exact bL.o) λaM ba a4 a5 bM=>?_;clear D5 dP dU aG;rcases(show bb=0\/bb=1 by omega)with rfl | rfl
    · have cm:((0:Nat) == 1)=false:=rfl;simp only[cm];clear cm;have hR:=zqw (nq:=nq) o.o aV.o SV.o.2 bX.o a4.o a5.o bM.o aN.o aR.o aU.o a2.o;have HR:=un hR;clear hR;go_wp2_with fail
      have h1:wrap64 ((k:Int)-1)=(k:Int)-1:=by have:=K.o;have:=aP.o;have:=zaP;unfold wrap64;omega
      exact⟨⟨k,us2,qs.set k q,by rw[h1],by have:=K.o;omega,ba.o,by rw[ZW];exact M.o,HR.o,aM.o⟩,by rw[h1];simp[intOf]⟩
    have R:((1:Nat) == 1)=true:=rfl;simp only[R];clear R;have cE:0<q:=by rcases X2 q with h | h;subst h;have:=zo6 aV.o aU.o aR.o a5.o a2.o (Za 1) σ;omega;exact h
    have dl:=un (zdN cE bQ.o)
    have dQ:χ y5 G k (.int .u64 (q:Int)):=by
      have h:=aM.o.cellQ (by rw[ZW];exact M.o) K.o;have e:wd (qs.set k q) k=q:=by unfold wd;rw[zcU _ _ _ _ a4.o,if_pos rfl]
      rw[e]at h;exact h
    have dV:=aM.o.q.frozenAt k;clear cE;go_wp2_with fail
    rw[dl.o];have D6:=aM.o.setQ U.o k (q-1);have c1:=un D6;clear D6 dQ dV;generalize y5.setCell ⟨G,k,none⟩ (.int .u64 ((q-1:Nat):Int))=y6 at *
    have D7:DS w y6.drew H G gv d.length nq cu us2 ((qs.set k q).set k (q-1)) vs Av cv':=c1.o.step (zap y6 1);have bJ:=un D7;have ev:=D7.cellV;have dk:=un (D7.outC ba.o);have aG:=λW=>zvl W H (d.length+1) cu k (k+vs.length+1) (IntKind.i64.wrap ((x:Int)+1)) b1.o ω ap.o (by have:=ap.o;omega)
    rw[show k+vs.length+1-k=vs.length+1 by omega]at aG;clear D7;go_region_with (go_at_call 191;(with_reducible refine(back y6.drew y6.drew H (d.length+1) cu k (cu-k) us2 vs Av cv' dk.o bJ.o.sv b0.o aU.o a9.o bV.o).mono ?_);rintro e y7 ⟨us3,rfl,aB,hw8,hs8,cc,he8⟩;refine μ4 aB hw8 hs8 he8 λa7 dz bS c7=>?_;clear aB hw8 hs8 he8)
    all_goals
      have D8:=bJ.o.ofOut U.o a7.o;have c5:=un D8;have hR:=zsu (c:=cc) o.o aV.o SV.o.2 bX.o a4.o a5.o bM.o aN.o aR.o aU.o a2.o bS.o dz.o c7.o;have HR:=un hR;clear hR D8 aG;go_wp2_with fail
      have h1:wrap64 ((k:Int)-1)=(k:Int)-1:=by have:=K.o;have:=aP.o;have:=zaP;unfold wrap64;omega
      exact⟨⟨k,us3,(qs.set k q).set k (q-1),by rw[h1],by have:=K.o;omega,by rw[bS.o.1];exact ba.o,by rw[ZW,ZW];exact M.o,HR.o.1,c5.o⟩,by rw[h1];simp[intOf]⟩
end Qt
end Go.Proofs.YtbpjabgfcbjjmaaGreat
namespace Go.Proofs.YtbpjabgfcbjjmaaGreat
open Go.RowKit Am Tryz
attribute [local go_sem ↓] Go.wp_at_zero Go.wp_at_succ
variable {b c c' m m' x y:Nat}{A B:OA}{v:Value}{w w' wr:World}
namespace Qt
def zyj(A B:OA)(m c m' c' a b:Nat)(w:World)(d:zas w (A,m,c) a)(e:zas w (B,m',c') b)(f:0<b)(g:wlen a+1<=LIM) :
  Calls prog 182 #[.agg #[(A,m,c)],.agg #[(B,m',c')]] w (zv4 w (a/b) (a%b) true):=by grind[zr5,Nat.lt_or_ge,zpY,zr4]
def div(A B:OA)(m c m' c' a b:Nat)(w:World)(i:zas w (A,m,c) a)(d:zas w (B,m',c') b)(j:0<b)(k:wlen a+1<=LIM) :
  Calls prog 167 #[.agg #[(A,m,c)],.agg #[(B,m',c')]] w (zjL w (a/b) true):=by
 refine μ4 i d k j λn o s q=>?_;clear i d k j;go_enter func167,ntmps167;go_wp2_with fail
 refine(zyj A B m c m' c' a b _ (((n.o.alloc _).alloc _).alloc _) (((o.o.alloc _).alloc _).alloc _) q.o s.o).mono ?_;rintro e l ⟨A1,m1,c1,A2,m2,c2,rfl,hq,hr,hb2⟩;have y:=un ((hb2.block (w.heap.size+1+1) σ).trans (zam (cs:=#[.slice none 0 0]) (t:=58) σ));have x:=hb2.size;simp at x;have u:=un hq;have r:=un hb2;clear hq hr hb2;have f:=un (show θ ((l.alloc (.cells #[(A1,m1,c1)] 58)).alloc (.cells #[(A2,m2,c2)] 58)) (w.heap.size+1+1) #[()] 58from zak (zak y.o));have g:=zac f.o 0;have z:=zag f.o 0;simp only[Xd,Z8]at g;go_wp2;refine Zi (v:=.tuple #[.agg #[(A1,m1,c1)],true]) (by simp[results,results167,go_sem,g]) rfl ?_;have d:Below w w ((l.alloc (.cells #[(A1,m1,c1)] 58)).alloc (.cells #[(A2,m2,c2)] 58)):=(((((zae w _).alloc σ _).alloc (by simp;omega) _).trans (r.o.mono (by simp;omega))).alloc ω _).alloc (by simp;omega) _;exact⟨_,_,_,rfl,zas.setBox ((u.o.alloc _).alloc _) (Box.of f.o),bsc d⟩
def mod(A B:OA)(m c m' c' a b:Nat)(w:World)(i:zas w (A,m,c) a)(d:zas w (B,m',c') b)(j:0<b)(k:wlen a+1<=LIM) :
  Calls prog 181 #[.agg #[(A,m,c)],.agg #[(B,m',c')]] w (zjL w (a%b) true):=by
 refine μ4 i d k j λn o s q=>?_;clear i d k j;go_enter func181,ntmps181;go_wp2_with fail
 refine(zyj A B m c m' c' a b _ (((n.o.alloc _).alloc _).alloc _) (((o.o.alloc _).alloc _).alloc _) q.o s.o).mono ?_;rintro e l ⟨A1,m1,c1,A2,m2,c2,rfl,hq,hr,hb2⟩;have y:=un ((hb2.block (w.heap.size+1+1) σ).trans (zam (cs:=#[.slice none 0 0]) (t:=58) σ));have x:=hb2.size;simp at x;have u:=un hr;have r:=un hb2;clear hq hr hb2;have f:=un (show θ ((l.alloc (.cells #[(A1,m1,c1)] 58)).alloc (.cells #[(A2,m2,c2)] 58)) (w.heap.size+1+1) #[()] 58from zak (zak y.o));have g:=zac f.o 0;have z:=zag f.o 0;simp only[Xd,Z8]at g;go_wp2;refine Zi (v:=.tuple #[.agg #[(A2,m2,c2)],true]) (by simp[results,results181,go_sem,g]) rfl ?_;have d:Below w w ((l.alloc (.cells #[(A1,m1,c1)] 58)).alloc (.cells #[(A2,m2,c2)] 58)):=(((((zae w _).alloc σ _).alloc (by simp;omega) _).trans (r.o.mono (by simp;omega))).alloc ω _).alloc (by simp;omega) _;exact⟨_,_,_,rfl,zas.setBox ((u.o.alloc _).alloc _) (Box.of f.o),bsc d⟩
end Qt
namespace Gc
structure GS (w wr:World) (A:OA) (m c:Nat) (B:OA) (m' c' x y:Nat):Prop where
  ka:θ wr w.heap.size #[(A,m,c)] 58
  kb:θ wr (w.heap.size+1) #[(B,m',c')] 58
  kr:θ wr (w.heap.size+1+1) #[()] 58
  x:zas wr (A,m,c) x
  y:zas wr (B,m',c') y
  bel:Below w w wr
def GS.step(h:GS w wr A m c B m' c' x y)(a:Below wr wr w'):GS w w' A m c B m' c' x y :=
 ⟨zad a h.ka,zad a h.kb,zad a h.kr,h.x.below a,h.y.below a,h.bel.trans (a.mono h.bel.size)⟩
def GS.turn(h:GS w wr A m c B m' c' x y){C:OA}{a z:Nat}(f:zas wr (C,b,a) z) :
  GS w ((wr.setCell ⟨w,0,none⟩ (B,m',c')).setCell ⟨w.heap.size+1,0,none⟩ (C,b,a)) B m' c' C b a y z:=by
 have d:=Box.of h.ka;have e:Box (wr.setCell ⟨w,0,none⟩ (B,m',c')) (w.heap.size+1):=Box.set (Box.of h.kb);have k2:=(ZE wr ⟨w,0,none⟩ (B,m',c') (w.heap.size+1) σ).trans h.kb;refine⟨?_,one_setCell k2,?_,zas.setBox (zas.setBox h.y d) e,zas.setBox (zas.setBox f d) e,bsc (Xj h.bel (p:=⟨w,0,none⟩) (Za _) _)⟩;exact(ZE _ ⟨w.heap.size+1,0,none⟩ _ w.heap.size σ).trans (one_setCell h.ka);exact(ZE _ ⟨w.heap.size+1,0,none⟩ _ (w.heap.size+1+1) σ).trans ((ZE _ ⟨w,0,none⟩ _ (w.heap.size+1+1) (by simp;omega)).trans h.kr)
def of(A B:OA)(m c m' c' a b:Nat)(w:World)(D:zas w (A,m,c) a)(E:zas w (B,m',c') b)(G:wlen a+1<=LIM)(H:wlen b+1<=LIM) :
  Calls prog 166 #[.agg #[(A,m,c)],.agg #[(B,m',c')]] w (zc0 w (Nat.gcd a b)):=by
 refine μ4 D E G H λQ R S T=>?_;clear D E G H;go_enter func166,ntmps166;go_wp2_with fail
 have X:=un (show GS w (((w.alloc (.cells #[(A,m,c)] 58)).alloc (.cells #[(B,m',c')] 58)).alloc (.cells #[()] 58)) A m c B m' c' a b from
  ⟨zak (zak (zam rfl)),zak (zam σ),zam σ,((Q.o.alloc _).alloc _).alloc _,((R.o.alloc _).alloc _).alloc _,((zae w _).alloc σ _).alloc (by simp;omega) _⟩)
 generalize ((w.alloc (.cells #[(A,m,c)] 58)).alloc (.cells #[(B,m',c')] 58)).alloc (.cells #[()] 58)=w1 at *
 go_loopg [] b (λZ wr=>∃(k:OA) (q o:Nat) (f:OA) (i g x y:Nat),GS w wr k q o f i g x y/\Nat.gcd x y=Nat.gcd a b/\wlen x+1<=LIM/\wlen y+1<=LIM/\y<=Z)
 case atStart=>exact⟨A,m,c,B,m',c',a,b,X.o,rfl,S.o,T.o,Za _⟩
 obtain⟨k,q,o,f,i,g,x,y,t,F,I,J,L⟩:=hrel;refine μ5 t F I J L λr z U C Y=>?_;have kb:=zac t.kb 0;simp only[Xd,Z8]at kb;clear t F I J L;rcases X2 y with hy0 | hy0
 ·have M:isZ y=true:=by rw[hy0];rfl
  have n:=un hy0;have d:=un (r.o.step (zae wr (.cells #[(f,i,g)] 58)));have s:=zac d.o.ka 0;have P:=zac d.o.kr 0;have af:=zag d.o.kr 0;simp only[Xd,Z8]at s P;clear hy0;go_wp2_with (go_at_call 129;(with_reducible refine(Nt.zero (f,i,g) y _ r.o.y).mono ?_);rintro e w2 ⟨rfl,rfl⟩)
  refine Zi (v:=.agg #[(k,q,o)]) (by simp[results,results166,go_sem,P]) rfl ?_;have K:=d.o.x;have hg:=z.o;rw[n.o,Nat.gcd_zero_right]at hg;rw[hg]at K;exact⟨_,_,_,rfl,zas.setBox K (Box.of d.o.kr),bsc d.o.bel⟩
 have M:=zk4 hy0;have n:=un hy0;have d:=un (r.o.step (zae wr (.cells #[(f,i,g)] 58)));have s:=zac d.o.ka 0;have N:=zac d.o.kb 0;simp only[Xd,Z8]at s N;clear hy0
 go_wp2_with (first
  | (go_at_call 129;(with_reducible refine(Nt.zero (f,i,g) y _ r.o.y).mono ?_);rintro e w2 ⟨rfl,rfl⟩)
  | (go_at_call 181;(with_reducible refine(Qt.mod k f q o i g x y _ d.o.x d.o.y n.o U.o).mono ?_);rintro e j ⟨A3,m3,c3,rfl,hr,hb3⟩;have u:=un (d.o.step hb3);have V:=un hr;clear hr hb3))
 have l:Hid (GS w (j.alloc (.cells #[(A3,m3,c3)] 58)).drew k q o f i g x y):=un (u.o.step ((zae j _).drew));have W:Hid (zas (j.alloc (.cells #[(A3,m3,c3)] 58)).drew (A3,m3,c3) (x%y)):=un ((V.o.alloc _).drew);have ai:χ (j.alloc (.cells #[(A3,m3,c3)] 58)).drew j 0 (A3,m3,c3):=zax rfl rfl;have ad:w.heap.size+3<=j.heap.size:=by have:=(ZU.1 u.o.kr).1;omega
 have aa:=zac l.o.ka 0;have ag:=zag l.o.ka 0;have O:=zac l.o.kb 0;have ab:=zag l.o.kb 0;simp only[Xd,Z8]at aa O;have aj:χ ((j.alloc (.cells #[(A3,m3,c3)] 58)).setCell ⟨w,0,none⟩ (f,i,g)).drew j 0 (A3,m3,c3):=cell_set ω (zax rfl rfl);have ae:χ (j.alloc (.cells #[(A3,m3,c3)] 58)) (w.heap.size+1) 0 (f,i,g):=O;have ah:(j.alloc (.cells #[(A3,m3,c3)] 58)).frozen? ⟨w.heap.size+1,0,none⟩=false:=ab;clear s N kb M;go_region
 all_goals
  go_wp2;go_roundg (x%y)
  case measure=>have:=Z0 x n.o;have:=Y.o;omega
  refine⟨f,i,g,A3,m3,c3,y,x%y,l.o.turn W.o,?_,C.o,?_,Za _⟩;rw[<-z.o,YY y,<-Nat.gcd_rec,YY];have:=zco (Xm (Z0 x n.o));have:=C.o;omega
end Gc
namespace Gc
structure RS (w wr:World) (A:OA) (m c:Nat) (B:OA) (m' c' x y:Nat):Prop where
  ka:θ wr w.heap.size #[(A,m,c)] 58
  kb:θ wr (w.heap.size+1) #[(B,m',c')] 58
  k2:θ wr (w.heap.size+1+1) #[()] 58
  k3:θ wr (w.heap.size+1+1+1) #[()] 58
  x:zas wr (A,m,c) x
  y:zas wr (B,m',c') y
  bel:Below w w wr
def RS.step(h:RS w wr A m c B m' c' x y)(a:Below wr wr w'):RS w w' A m c B m' c' x y :=
 ⟨zad a h.ka,zad a h.kb,zad a h.k2,zad a h.k3,h.x.below a,h.y.below a,h.bel.trans (a.mono h.bel.size)⟩
def zx8(h:θ w b #[v] 58):χ w b 0 v:=zac h 0
def reduce(A B:OA)(m c m' c' a b:Nat)(w:World)(C:zas w (A,m,c) a)(D:zas w (B,m',c') b)(E:0<b)(F:wlen a+1<=LIM)(G:wlen b+1<=LIM) :
  Calls prog 133 #[.agg #[(A,m,c)],.agg #[(B,m',c')]] w (zpo w (a/Nat.gcd a b) (b/Nat.gcd a b)):=by
 refine μ5 C D F G (Nat.gcd_pos_of_pos_right a E) λJ K o q j=>?_;clear C D F G E;go_enter func133,ntmps133;go_wp2_with fail
 have k:=un (show RS w ((((w.alloc (.cells #[(A,m,c)] 58)).alloc (.cells #[(B,m',c')] 58)).alloc (.cells #[()] 58)).alloc (.cells #[()] 58)) A m c B m' c' a b from
  ⟨zak (zak (zak (zam rfl))),zak (zak (zam σ)),zak (zam σ),zam σ,(((J.o.alloc _).alloc _).alloc _).alloc _,(((K.o.alloc _).alloc _).alloc _).alloc _,(((zae w _).alloc σ _).alloc (by simp;omega) _).alloc (by simp;omega) _⟩)
 generalize (((w.alloc (.cells #[(A,m,c)] 58)).alloc (.cells #[(B,m',c')] 58)).alloc (.cells #[()] 58)).alloc (.cells #[()] 58)=W0 at *
 refine(of A B m c m' c' a b _ k.o.x k.o.y o.o q.o).mono ?_;rintro e w1 ⟨G1,mg,cg,rfl,hg1,hb1⟩;have M:=un ((k.o.step hb1).step (zae w1 (.cells #[(G1,mg,cg)] 58)));have r:=un (hg1.alloc (.cells #[(G1,mg,cg)] 58));have n:θ (w1.alloc (.cells #[(G1,mg,cg)] 58)) w1.heap.size #[(G1,mg,cg)] 58:=zam rfl;have Q:=un n;have aa:=zx8 n;clear hg1 hb1 n;have H:=zk4 j.o;go_wp2_with fail
 generalize w1.alloc (.cells #[(G1,mg,cg)] 58)=W1 at *
 generalize w1.heap.size=gb at *
 refine(Nt.zero (G1,mg,cg) (Nat.gcd a b) _ r.o).mono ?_;rintro e w' ⟨rfl,rfl⟩;rw[H];refine μ3 (M.o.step (zae W1 (.cells #[(G1,mg,cg)] 58))) (r.o.alloc (.cells #[(G1,mg,cg)] 58)) (zad (zae W1 (.cells #[(G1,mg,cg)] 58)) Q.o) λl s t=>?_;have Y:=zx8 t.o;have W:=zx8 l.o.ka;clear aa H;generalize W1.alloc (.cells #[(G1,mg,cg)] 58)=W2 at *
 go_wp2_with fail
 refine(Qt.div A G1 m c mg cg a (Nat.gcd a b) _ l.o.x s.o j.o o.o).mono ?_;rintro e g ⟨X3,m3,c3,rfl,hx3,hb3⟩;refine μ4 ((l.o.step hb3).step (zae g (.cells #[(X3,m3,c3)] 58))) ((s.o.below hb3).alloc (.cells #[(X3,m3,c3)] 58)) (hx3.alloc (.cells #[(X3,m3,c3)] 58)) (zad (zae g (.cells #[(X3,m3,c3)] 58)) (zad hb3 t.o)) λi L N R=>?_;have I:θ (g.alloc (.cells #[(X3,m3,c3)] 58)) g.heap.size #[(X3,m3,c3)] 58:=zam rfl;have S:=un I;have Z:=zx8 R.o;have X:=zx8 i.o.kb;clear Y W I hx3 hb3;go_wp2_with fail
 generalize g.alloc (.cells #[(X3,m3,c3)] 58)=W3 at *
 generalize g.heap.size=xb at *
 refine(Qt.div B G1 m' c' mg cg b (Nat.gcd a b) _ i.o.y L.o j.o q.o).mono ?_;rintro e d ⟨Y4,m4,c4,rfl,hy4,hb4⟩;have f:Hid (RS w (d.alloc (.cells #[(Y4,m4,c4)] 58)).drew A m c B m' c' a b):=un ((i.o.step hb4).step ((zae d _).drew));have O:Hid (zas (d.alloc (.cells #[(Y4,m4,c4)] 58)).drew (X3,m3,c3) (a/Nat.gcd a b)):=un (((N.o.below hb4).alloc _).drew);have P:Hid (zas (d.alloc (.cells #[(Y4,m4,c4)] 58)).drew (Y4,m4,c4) (b/Nat.gcd a b)):=un ((hy4.alloc _).drew);have ae:χ (d.alloc (.cells #[(Y4,m4,c4)] 58)).drew xb 0 (X3,m3,c3):=cell_al (zx8 (zad hb4 S.o));have af:χ (d.alloc (.cells #[(Y4,m4,c4)] 58)).drew d 0 (Y4,m4,c4):=zax rfl rfl;have ad:w.heap.size+4<=d.heap.size:=by have:=(ZU.1 (zad hb4 i.o.k3)).1;omega
 have u:=zx8 f.o.k2;have g4:=zag f.o.k2 0;have z:=zx8 f.o.k3;have V:=zag f.o.k3 0;have T:χ (d.alloc (.cells #[(Y4,m4,c4)] 58)) (w.heap.size+1+1) 0 ():=u;have U:χ (d.alloc (.cells #[(Y4,m4,c4)] 58)) (w.heap.size+1+1+1) 0 ():=z;have ac:(d.alloc (.cells #[(Y4,m4,c4)] 58)).frozen? ⟨w.heap.size+1+1+1,0,none⟩=false:=V;have ag:χ ((d.alloc (.cells #[(Y4,m4,c4)] 58)).setCell ⟨w.heap.size+1+1,0,none⟩ (X3,m3,c3)).drew d 0 (Y4,m4,c4):=cell_set ω (zax rfl rfl);clear Z X hy4 hb4;go_wp2_with fail
 go_region
 all_goals
  go_wp2;refine Zi (v:=.tuple #[.agg #[(X3,m3,c3)],.agg #[(Y4,m4,c4)]]) (by simp[results,results133,go_sem,u,z,T,U]) rfl ?_;exact⟨_,_,_,_,_,_,rfl,zas.setBox (zas.setBox O.o (Box.of f.o.k2)) (Box.set (Box.of f.o.k3)),zas.setBox (zas.setBox P.o (Box.of f.o.k2)) (Box.set (Box.of f.o.k3)),bsc (bsc f.o.bel)⟩
end Gc
structure IntS (w:World) (g:Bool) (s:Value) (z:Int):Prop where
  abs:zas w s z.natAbs
  neg:g=decide (z<0)
def IntS.below{w w':World}{g:Bool}{s:Value}{z:Int}(h:IntS w g s z)(a:Below w w w'):IntS w' g s z:=⟨h.abs.below a,h.neg⟩
def IntS.alloc{w:World}{g:Bool}{s:Value}{z:Int}(h:IntS w g s z)(o:Obj):IntS (w.alloc o) g s z:=⟨h.abs.alloc o,h.neg⟩
def zfg (w:World) (z:Int) (e:Ending) (w':World):Prop:=∃(g:Bool) (A:OA) (m c:Nat),e=.returned (.agg #[g,(A,m,c)])/\IntS w' g (A,m,c) z/\Below w w w'
namespace It
def zBc(g:Bool)(n:Nat):(g && !isZ n)=decide ((if g then -(n:Int)else (n:Int))<0):=by unfold isZ;grind
def zlh{u:Value}{s:Value}{n:Nat}(h:zas w s n)(a:θ w b #[false,()] 60):zas ((w.setCell ⟨b,0,none⟩ u).setCell ⟨b,1,none⟩ v) s n:=by have h1:=heap_setCell_same w b 0 _ 60 u a;exact(h.setCell (p:=⟨b,0,none⟩) a δ u).setCell (p:=⟨b,1,none⟩) h1 δ v
def new(g:Bool)(A:OA)(m c n:Nat)(w:World)(k:zas w (A,m,c) n) :
  Calls prog 89 #[g,.agg #[(A,m,c)]] w (zfg w (if g then -(n:Int)else (n:Int))):=by
 have q:=un (zBc g n);obtain⟨W,a⟩:∃W,W=(w.alloc (.cells #[(A,m,c)] 58)).alloc (.cells #[false,()] 60):=⟨_,rfl⟩
 have i:=un (show zas W (A,m,c) n by rw[a];exact(k.alloc _).alloc _);refine μ4 i.o.drew (show θ W w.heap.size #[(A,m,c)] 58by rw[a];exact zak (zam rfl)) (show θ W (w.heap.size+1) #[false,()] 60by rw[a];exact zam σ) (show Below w w W by rw[a];exact(zae w _).alloc σ _) λo j b f=>?_;have x:χ W.drew w 0 (A,m,c):=zac j.o 0;have y:χ (W.alloc (.cells #[(A,m,c)] 58)).drew w 0 (A,m,c):=cell_al (zac j.o 0);have d:Hid (θ (W.alloc (.cells #[(A,m,c)] 58)) (w.heap.size+1) #[false,()] 60):=un (zak b.o);have t:χ W (w.heap.size+1) 0 (.bool false):=zac b.o 0;have u:χ W (w.heap.size+1) 1 ():=zac b.o 1;have C:=zag b.o 0;have D:=zag b.o 1;have r:χ (W.alloc (.cells #[(A,m,c)] 58)) (w.heap.size+1) 0 (.bool false):=zac d.o 0;have s:χ (W.alloc (.cells #[(A,m,c)] 58)) (w.heap.size+1) 1 ():=zac d.o 1;have z:=zag d.o 0;have B:=zag d.o 1;clear k;have l:Hid (zas (W.alloc (.cells #[(A,m,c)] 58)) (A,m,c) n):=un (i.o.alloc _);cases g
 case false =>
  go_enter func89,ntmps89;go_wp2_with fail
  rw[<-a];clear a;go_region_with fail
  all_goals
   go_wp2;refine Zi (v:=.agg #[false,(A,m,c)]) (by simp[results,results89,go_sem,t,u]) rfl ?_;exact⟨false,A,m,c,rfl,⟨by simpa using(zlh i.o b.o).drew,σ⟩,(bsc (bsc f.o)).drew⟩
 go_enter func89,ntmps89;go_wp2_with fail
 rw[<-a];clear a;go_region_with (go_at_call 129;(with_reducible refine(Nt.zero (A,m,c) n _ o.o).mono ?_);rintro e E ⟨rfl,rfl⟩)
 all_goals
  go_wp2;refine Zi (v:=.agg #[.bool (!isZ n),(A,m,c)]) (by simp[results,results89,go_sem,r,s]) rfl ?_;exact⟨!isZ n,A,m,c,rfl,⟨by simpa using(zlh l.o d.o).drew,by have:=q.o;simpa using this⟩,(bsc (bsc (f.o.alloc f.o.size _))).drew⟩
end It
namespace It
def abs(g:Bool)(A:OA)(m c:Nat)(w:World):Calls prog 134 #[.agg #[g,(A,m,c)]] w λe w'=>e=.returned (.agg #[(A,m,c)])/\Below w w w':=by go_enter func134,ntmps134;go_wp2;exact Zi (v:=.agg #[(A,m,c)]) (by simp[results,results134,go_sem]) rfl ⟨rfl,(zae w _).alloc σ _⟩
def isBelow(g:Bool)(A:OA)(m c:Nat)(w:World):Calls prog 136 #[.agg #[g,(A,m,c)]] w λe w'=>e=.returned g/\Below w w w':=by go_enter func136,ntmps136;go_wp2;go_ret;exact⟨rfl,zae w _⟩
def signed(g:Bool)(z:Int)(h:g=decide (z<0)):(if (!g)=true then -((z.natAbs:Nat):Int)else ((z.natAbs:Nat):Int)) = -z:=ψ
def neg(g:Bool)(A:OA)(m c:Nat)(z:Int)(w:World)(h:IntS w g (A,m,c) z):Calls prog 143 #[.agg #[g,(A,m,c)]] w (zfg w (-z)):=by
 have d:=un (signed g z h.neg);have i:=un (new (!g) A m c z.natAbs _ ((h.abs.alloc (.cells #[g,(A,m,c)] 60)).alloc (.cells #[false,()] 60)));clear h;go_enter func143,ntmps143;go_wp2_with fail
 refine i.o.mono ?_;rintro e a ⟨g2,A2,m2,c2,rfl,hi,hb⟩;have kr:=un (zad hb (show θ ((w.alloc (.cells #[g,(A,m,c)] 60)).alloc (.cells #[false,()] 60)) (w.heap.size+1) #[false,()] 60from zam σ));have k:χ a (w.heap.size+1) 0 (.bool false):=zac kr.o 0;have l:χ a (w.heap.size+1) 1 ():=zac kr.o 1;have n:=zag kr.o 0;have o:=zag kr.o 1;have f:=un hi;have b:=un hb;clear hi hb;go_wp2;refine Zi (v:=.agg #[g2,(A2,m2,c2)]) (by simp[results,results143,go_sem,k,l]) rfl ?_;have hi:=f.o;rw[d.o]at hi;have j:Below w w a:=((zae w _).alloc σ _).trans (b.o.mono (by simp;omega));exact⟨g2,A2,m2,c2,rfl,⟨zlh hi.abs kr.o,hi.neg⟩,bsc (bsc j)⟩
def sign(g:Bool)(A:OA)(m c:Nat)(z:Int)(w:World)(h:IntS w g (A,m,c) z):Calls prog 126 #[.agg #[g,(A,m,c)]] w λe w'=>e=.returned (.int .i64 z.sign)/\Below w w w':=by
 have f:=un (h.abs.alloc (.cells #[g,(A,m,c)] 60));have hg:=h.neg;clear h;rcases Yo z 0 with hz | hz | hz
 ·rw[ZG hz]at hg;have a:=un (YZ hz);subst hg;clear hz;go_enter func126,ntmps126;go_wp2;go_ret
  exact⟨by rw[a.o];rfl,zae w _⟩
 ·subst hz;have b:g=false:=hg;subst b;have d:isZ (Int.natAbs 0)=true:=rfl;clear hg;go_enter func126,ntmps126;go_wp2_with (go_at_call 129;(with_reducible refine(Nt.zero (A,m,c) (Int.natAbs 0) _ f.o).mono ?_);rintro e i ⟨rfl,rfl⟩;rw[d])
  go_ret;exact⟨rfl,(zae w _).alloc σ _⟩
 have b:g=false:=by rw[hg,ZJ ω]
 have a:=un (Y0 hz);have d:isZ z.natAbs=false:=zk4 ω;subst b;clear hg hz;go_enter func126,ntmps126;go_wp2_with (go_at_call 129;(with_reducible refine(Nt.zero (A,m,c) z.natAbs _ f.o).mono ?_);rintro e i ⟨rfl,rfl⟩;rw[d])
 go_ret;exact⟨by rw[a.o];rfl,(zae w _).alloc σ _⟩
end It
namespace It
theorem cmp(g:Bool)(A:OA)(m c:Nat)(x:Int)(g':Bool)(B:OA)(m' c':Nat)(y:Int)(w:World)(h:IntS w g (A,m,c) x)(j:IntS w g' (B,m',c') y) :
  Calls prog 64 #[.agg #[g,(A,m,c)],.agg #[g',(B,m',c')]] w λe w'=>e=.returned (.int .i64 (ze9 x y))/\Below w w w':=by
 refine μ5 ((h.abs.alloc (.cells #[g,(A,m,c)] 60)).alloc (.cells #[g',(B,m',c')] 60)) ((j.abs.alloc (.cells #[g,(A,m,c)] 60)).alloc (.cells #[g',(B,m',c')] 60)) h.neg j.neg ((zae w (.cells #[g,(A,m,c)] 60)).alloc σ (.cells #[g',(B,m',c')] 60)) λk l f i d=>?_;clear h j;have a:∀ {p:Prop} [Decidable p],true=decide p->p:=λh=>Xx h.symm
 have b:∀ {p:Prop} [Decidable p],false=decide p->¬p:=λh=>VC h.symm
 cases g<;>cases g'
 ·have h1:=un (show ze9 ((x.natAbs:Nat):Int) ((y.natAbs:Nat):Int)=ze9 x y by have:=b f.o;have:=b i.o;rw[show((x.natAbs:Nat):Int)=x by omega,show((y.natAbs:Nat):Int)=y by omega])
  clear a b;go_enter func64,ntmps64;go_wp2_with (go_at_call 66;(with_reducible refine(Nt.cmp A B m c m' c' x.natAbs y.natAbs _ k.o l.o).mono ?_);rintro e n ⟨rfl,hb⟩;rw[h1.o])
  go_ret;exact⟨rfl,d.o.trans (hb.mono d.o.size)⟩
 ·have h1:=un (show ze9 x y=1 from zea (by have:=b f.o;have:=a i.o;omega));clear a b;go_enter func64,ntmps64;go_wp2;go_ret
  exact⟨by rw[h1.o];rfl,d.o⟩
 ·have h1:=un (show ze9 x y = -1 from zeb (by have:=a f.o;have:=b i.o;omega));clear a b;go_enter func64,ntmps64;go_wp2;go_ret
  exact⟨by rw[h1.o];rfl,d.o⟩
 have h1:=un (show ze9 ((y.natAbs:Nat):Int) ((x.natAbs:Nat):Int)=ze9 x y by have:=a f.o;have:=a i.o;unfold ze9;rcases Yo x y with h | h | h;rw[if_pos ω,if_pos h];rw[if_neg ω,if_neg ω,if_neg ω,if_neg ω];rw[if_neg ω,if_pos ω,if_neg ω,if_pos h]);clear a b;go_enter func64,ntmps64;go_wp2_with (go_at_call 66;(with_reducible refine(Nt.cmp B A m' c' m c y.natAbs x.natAbs _ l.o k.o).mono ?_);rintro e n ⟨rfl,hb⟩;rw[h1.o])
 go_ret;exact⟨rfl,d.o.trans (hb.mono d.o.size)⟩
end It
end Go.Proofs.YtbpjabgfcbjjmaaGreat
namespace Go.Proofs.YtbpjabgfcbjjmaaGreat
open Go.RowKit Am Tryz
attribute [local go_sem ↓] Go.wp_at_zero Go.wp_at_succ
variable {g g':Bool}{x y:Int}{c c' m m':Nat}{A B:OA}{w wr:World}
namespace It
def zA2(g g':Bool)(x y:Int)(h:g=decide (x<0))(a:g'=decide (y<0)):(if (!(g == g'))=true then -((x.natAbs*y.natAbs:Nat):Int)else ((x.natAbs*y.natAbs:Nat):Int))=x*y:=by
 have e:((x.natAbs*y.natAbs:Nat):Int)=(x*y).natAbs:=by rw[X4]
 rw[e];rcases Yo x 0 with hx | hx | hx<;>rcases Yo y 0 with hy | hy | hy
 all_goals first
  | (subst hx;simp;done)
  | (subst hy;simp;done)
  | skip
 have:=Int.mul_pos_of_neg_of_neg hx hy;rw[h,a,ZG hx,ZG hy];simp;omega;have:=Int.mul_neg_of_neg_of_pos hx hy;rw[h,a,ZG hx,ZJ ω];simp;omega;have:=Int.mul_neg_of_pos_of_neg hx hy;rw[h,a,ZJ ω,ZG hy];simp;omega;grind
def bdrew0'{w1:World}(h:Below w.drew.heap.size w.drew w1):Below w w w1:=⟨h.os,h.tape,h.output,h.size,h.block⟩
def mul(g:Bool)(A:OA)(m c:Nat)(x:Int)(g':Bool)(B:OA)(m' c':Nat)(y:Int)(w:World)(h:IntS w g (A,m,c) x)(d:IntS w g' (B,m',c') y)(n:4*wlen x.natAbs<=LIM)(o:4*wlen y.natAbs<=LIM) :
  Calls prog 86 #[.agg #[g,(A,m,c)],.agg #[g',(B,m',c')]] w (zfg w (x*y)):=by
 refine μ3 (zA2 g g' x y h.neg d.neg) n o λG D E=>?_;obtain⟨W,a⟩:∃W,W=((w.alloc (.cells #[g,(A,m,c)] 60)).alloc (.cells #[g',(B,m',c')] 60)).alloc (.cells #[false,()] 60):=⟨_,rfl⟩
 have s:Hid (zas W.drew (A,m,c) x.natAbs):=un (by rw[a];exact(((h.abs.alloc _).alloc _).alloc _).drew);have t:Hid (zas W.drew (B,m',c') y.natAbs):=un (by rw[a];exact(((d.abs.alloc _).alloc _).alloc _).drew);have f:θ W w.heap.size #[g,(A,m,c)] 60:=by rw[a];exact zak (zak (zam rfl))
 have i:θ W (w.heap.size+1) #[g',(B,m',c')] 60:=by rw[a];exact zak (zam σ)
 have hr:θ W (w.heap.size+1+1) #[false,()] 60:=by rw[a];exact zam σ
 have l:Below w w W:=by rw[a];exact((zae w _).alloc σ _).alloc (by simp;omega) _
 have H:χ W.drew w 0 (.bool g):=zac f 0;have a1:χ W.drew w 1 (A,m,c):=zac f 1;have I:χ W.drew (w.heap.size+1) 0 (.bool g'):=zac i 0;have M:χ W.drew (w.heap.size+1) 1 (B,m',c'):=zac i 1;have C:=un hr;have k:=un l;clear h d n o f i hr l;go_enter func86,ntmps86;go_wp2_with fail
 rw[<-a];clear a
 go_region_with (first
  | (go_at_call 90;(refine(Pr.mul A B m c m' c' x.natAbs y.natAbs _ s.o t.o D.o E.o).mono ?_);rintro e r ⟨A2,m2,c2,rfl,hn,hb2⟩;have F:=un hn;have b:=un hb2;have u0:χ r w 0 (.bool g):=zab hb2 H;have u1:χ r (w.heap.size+1) 0 (.bool g'):=zab hb2 I;clear hn hb2)
  | (go_at_call 89;(refine(new (!(g == g')) A2 m2 c2 (x.natAbs*y.natAbs) _ F.o).mono ?_);rintro e j ⟨g3,A3,m3,c3,rfl,hi,hb3⟩;refine μ3 hi hb3 (zad hb3 (zad b.o (show θ W.drew (w.heap.size+1+1) #[false,()] 60from C.o))) λz u kr=>?_;have K:χ j (w.heap.size+1+1) 0 (.bool false):=zac kr.o 0;have L:χ j (w.heap.size+1+1) 1 ():=zac kr.o 1;have N:=zag kr.o 0;have O:=zag kr.o 1;clear hi hb3))
 all_goals
  go_wp2;refine Zi (v:=.agg #[g3,(A3,m3,c3)]) (by simp[results,results86,go_sem,K,L]) rfl ?_;have hi:=z.o;rw[G.o]at hi;have q:w.heap.size<=W.heap.size:=k.o.size;have J:Below w w j:=(k.o.trans ((bdrew0' b.o).mono q)).trans (u.o.mono (Zf q (bdrew0' b.o).size));exact⟨g3,A3,m3,c3,rfl,⟨zlh hi.abs kr.o,hi.neg⟩,bsc (bsc J)⟩
end It
namespace It
structure AS (w wr:World) (g:Bool) (A:OA) (m c:Nat) (x:Int) (g':Bool) (B:OA) (m' c':Nat) (y:Int):Prop where
  ka:θ wr w.heap.size #[g,(A,m,c)] 60
  kb:θ wr (w.heap.size+1) #[g',(B,m',c')] 60
  kr:θ wr (w.heap.size+1+1) #[false,()] 60
  x:zas wr (A,m,c) x.natAbs
  y:zas wr (B,m',c') y.natAbs
  bel:Below w w wr
def AS.step{w':World}(h:AS w wr g A m c x g' B m' c' y)(a:Below wr wr w'):AS w w' g A m c x g' B m' c' y :=
 ⟨zad a h.ka,zad a h.kb,zad a h.kr,h.x.below a,h.y.below a,h.bel.trans (a.mono h.bel.size)⟩
def AS.start(h:IntS w g (A,m,c) x)(a:IntS w g' (B,m',c') y) :
  AS w (((w.alloc (.cells #[g,(A,m,c)] 60)).alloc (.cells #[g',(B,m',c')] 60)).alloc (.cells #[false,()] 60)) g A m c x g' B m' c' y :=
 ⟨zak (zak (zam rfl)),zak (zam σ),zam σ,((h.abs.alloc _).alloc _).alloc _,((a.abs.alloc _).alloc _).alloc _,((zae w _).alloc σ _).alloc (by simp;omega) _⟩
def AS.fin(h:AS w wr g A m c x g' B m' c' y){d:Bool}{a:OA}{e b:Nat}{z:Int}(hi:IntS wr d (a,e,b) z) :
  zfg w z (.returned (.agg #[d,(a,e,b)])) ((wr.setCell ⟨w.heap.size+1+1,0,none⟩ d).setCell ⟨w.heap.size+1+1,1,none⟩ (a,e,b)) :=
 ⟨d,a,e,b,rfl,⟨zlh hi.abs h.kr,hi.neg⟩,bsc (bsc h.bel)⟩
theorem zv8(g:Bool)(A:OA)(m c:Nat)(x:Int)(B:OA)(m' c':Nat)(y:Int)(w:World)(h:IntS w g (A,m,c) x)(d:IntS w g (B,m',c') y)(j:wlen x.natAbs<=LIM)(k:wlen y.natAbs<=LIM) :
  Calls prog 88 #[.agg #[g,(A,m,c)],.agg #[g,(B,m',c')]] w (zfg w (x+y)):=by
 refine μ3 (show(if g=true then -((x.natAbs+y.natAbs:Nat):Int)else ((x.natAbs+y.natAbs:Nat):Int))=x+y by have h1:=h.neg;have i:=d.neg;cases g;have:=VC h1.symm;have:=VC i.symm;simp;omega;have:=Xx h1.symm;have:=Xx i.symm;simp;omega) j k λs p q=>?_;have hS:=AS.start h d;generalize hW:((w.alloc (.cells #[g,(A,m,c)] 60)).alloc (.cells #[g,(B,m',c')] 60)).alloc (.cells #[false,()] 60)=W at hS;have b:Hid (AS w W g A m c x g B m' c' y):=un hS;have f:χ W.drew w 0 (.bool g):=zac hS.ka 0;have a1:χ W.drew w 1 (A,m,c):=zac hS.ka 1;have E:χ W.drew (w.heap.size+1) 1 (B,m',c'):=zac hS.kb 1;have C:χ W w 0 (.bool g):=f;have D:χ W (w.heap.size+1) 0 (.bool g):=zac hS.kb 0;go_enter func88,ntmps88;go_wp2_with fail
 go_region_with (first
  | (go_at_call 137;(refine(Nt.add A B m c m' c' x.natAbs y.natAbs _ b.o.x.drew b.o.y.drew p.o q.o).mono ?_);rintro e z ⟨A2,m2,c2,rfl,hn,hb2⟩;have r:=un hn;have n:=un hb2;have u0:χ z w 0 (.bool g):=zab hb2 f)
  | (go_at_call 89;(refine(new g A2 m2 c2 (x.natAbs+y.natAbs) _ r.o).mono ?_);rintro e l ⟨g3,A3,m3,c3,rfl,hi,hb3⟩;have o:=un hi;have a:=un ((b.o.step (bdrew0' n.o)).step hb3);have t:χ l (w.heap.size+1+1) 0 (.bool false):=zac a.o.kr 0;have u:χ l (w.heap.size+1+1) 1 ():=zac a.o.kr 1;have F:=zag a.o.kr 0;have G:=zag a.o.kr 1))
 all_goals
  go_wp2;refine Zi (v:=.agg #[g3,(A3,m3,c3)]) (by simp[results,results88,go_sem,t,u]) rfl ?_;have hi:=o.o;rw[s.o]at hi;exact a.o.fin hi
def zov(g:Bool)(x y:Int)(h:g=decide (x<0))(hle:y.natAbs<=x.natAbs)(c:decide (x<0)≠decide (y<0)):(if g=true then -((x.natAbs-y.natAbs:Nat):Int)else ((x.natAbs-y.natAbs:Nat):Int))=x+y:=by rw[h];grind
def zwG(g:Bool)(x y:Int)(h:g=decide (x<0))(a:y.natAbs<x.natAbs)(b:decide (x<0)≠decide (y<0)):(if g=true then -((x.natAbs-y.natAbs:Nat):Int)else ((x.natAbs-y.natAbs:Nat):Int))=x+y:=ψ
theorem zv7(g g':Bool)(A:OA)(m c:Nat)(x:Int)(B:OA)(m' c':Nat)(y:Int)(w:World)(F:g≠g')(h:IntS w g (A,m,c) x)(r:IntS w g' (B,m',c') y)(D:wlen x.natAbs<=LIM)(E:wlen y.natAbs<=LIM) :
  Calls prog 88 #[.agg #[g,(A,m,c)],.agg #[g',(B,m',c')]] w (zfg w (x+y)):=by
 refine μ5 h.neg r.neg F D E λo p C G H=>?_;have hS:=AS.start h r;generalize hW:((w.alloc (.cells #[g,(A,m,c)] 60)).alloc (.cells #[g',(B,m',c')] 60)).alloc (.cells #[false,()] 60)=W at hS;have f:Hid (AS w W g A m c x g' B m' c' y):=un hS;have U:(g == g')=false:=by simpa using F
 have O:χ W w 0 (.bool g):=zac hS.ka 0;have R:χ W (w.heap.size+1) 0 (.bool g'):=zac hS.kb 0;have Q:χ W w 1 (A,m,c):=zac hS.ka 1;have T:χ W (w.heap.size+1) 1 (B,m',c'):=zac hS.kb 1;rcases ZM x.natAbs y.natAbs with hlt | hle
 ·have z:=un hlt;go_enter func88,ntmps88;go_wp2_with fail
  refine(Nt.sub_no A B m c m' c' x.natAbs y.natAbs _ f.o.x f.o.y hlt).mono ?_
  rintro e d ⟨A2,m2,c2,rfl,hn,hb2⟩;have b:=(f.o.step hb2).step (zae d (.cells #[(A2,m2,c2)] 58));have i:=un b;have K:χ (d.alloc (.cells #[(A2,m2,c2)] 58)) w 1 (A,m,c):=zac b.ka 1;have L:χ (d.alloc (.cells #[(A2,m2,c2)] 58)) (w.heap.size+1) 1 (B,m',c'):=zac b.kb 1;go_wp2_with fail
  refine(Nt.sub_ok B A m' c' m c y.natAbs x.natAbs _ i.o.y i.o.x (Xm z.o) H.o).mono ?_
  rintro e k ⟨A3,m3,c3,rfl,hn,hb3⟩;have s:=(i.o.step hb3).step (zae k (.cells #[(A3,m3,c3)] 58));have J:=un s;have n:=un (hn.alloc (.cells #[(A3,m3,c3)] 58));have P:χ (k.alloc (.cells #[(A3,m3,c3)] 58)) (w.heap.size+1) 0 (.bool g'):=zac s.kb 0;have S:χ (k.alloc (.cells #[(A3,m3,c3)] 58)) k 0 (A3,m3,c3):=zac (zal _ _ _) 0;go_wp2_with fail
  refine(new g' A3 m3 c3 (y.natAbs-x.natAbs) _ n.o).mono ?_
  rintro e j ⟨g4,A4,m4,c4,rfl,hi,hb4⟩;have a:=J.o.step hb4;have q:=un a;have l:=un hi;have t:χ j (w.heap.size+1+1) 0 (.bool false):=zac a.kr 0;have u:χ j (w.heap.size+1+1) 1 ():=zac a.kr 1;have M:=zag a.kr 0;have N:=zag a.kr 1;go_wp2;refine Zi (v:=.agg #[g4,(A4,m4,c4)]) (by simp[results,results88,go_sem,t,u]) rfl ?_;have hi:=l.o;rw[zwG g' y x p.o z.o (by rw[<-o.o,<-p.o];exact λe=>C.o e.symm),Int.add_comm]at hi;exact q.o.fin hi
 have I:=un hle;go_enter func88,ntmps88;go_wp2_with fail
 refine(Nt.sub_ok A B m c m' c' x.natAbs y.natAbs _ f.o.x f.o.y hle G.o).mono ?_
 rintro e d ⟨A2,m2,c2,rfl,hn,hb2⟩;have b:=(f.o.step hb2).step (zae d (.cells #[(A2,m2,c2)] 58));have i:=un b;have n:=un (hn.alloc (.cells #[(A2,m2,c2)] 58));have K:χ (d.alloc (.cells #[(A2,m2,c2)] 58)) w 0 (.bool g):=zac b.ka 0;have L:χ (d.alloc (.cells #[(A2,m2,c2)] 58)) d 0 (A2,m2,c2):=zac (zal _ _ _) 0;go_wp2_with fail
 refine(new g A2 m2 c2 (x.natAbs-y.natAbs) _ n.o).mono ?_
 rintro e j ⟨g4,A4,m4,c4,rfl,hi,hb4⟩;have a:=i.o.step hb4;have q:=un a;have l:=un hi;have t:χ j (w.heap.size+1+1) 0 (.bool false):=zac a.kr 0;have u:χ j (w.heap.size+1+1) 1 ():=zac a.kr 1;have M:=zag a.kr 0;have N:=zag a.kr 1;go_wp2;refine Zi (v:=.agg #[g4,(A4,m4,c4)]) (by simp[results,results88,go_sem,t,u]) rfl ?_;have hi:=l.o;rw[zov g x y o.o I.o (by rw[<-o.o,<-p.o];exact C.o)]at hi;exact q.o.fin hi
def add(g g':Bool)(A:OA)(m c:Nat)(x:Int)(B:OA)(m' c':Nat)(y:Int)(w:World)(h:IntS w g (A,m,c) x)(a:IntS w g' (B,m',c') y)(b:wlen x.natAbs<=LIM)(d:wlen y.natAbs<=LIM) :
  Calls prog 88 #[.agg #[g,(A,m,c)],.agg #[g',(B,m',c')]] w (zfg w (x+y)):=by grind[zv8,zv7]
end It
end Go.Proofs.YtbpjabgfcbjjmaaGreat
namespace Go.Proofs.YtbpjabgfcbjjmaaGreat
open Go.RowKit Am Tryz
attribute [local go_sem ↓] Go.wp_at_zero Go.wp_at_succ
variable {cs:Array Value}{g:Bool}{b o:Nat}{q:Rat}{t:TypeId}{s:Value}{w:World}
def dn (q:Rat):Nat:=if q.den=1 then 0 else q.den
structure RatS (w:World) (g:Bool) (s d:Value) (q:Rat):Prop where
  num:IntS w g s q.num
  den:zas w d (dn q)
def IntS.drew{w:World}{g:Bool}{s:Value}{z:Int}(h:IntS w g s z):IntS w.drew g s z:=⟨h.abs.drew,h.neg⟩
def RatS.below{w w':World}{g:Bool}{s d:Value}{q:Rat}(h:RatS w g s d q)(a:Below w w w'):RatS w' g s d q:=⟨h.num.below a,h.den.below a⟩
def RatS.alloc{w:World}{g:Bool}{s d:Value}{q:Rat}(h:RatS w g s d q)(o:Obj):RatS (w.alloc o) g s d q:=⟨h.num.alloc o,h.den.alloc o⟩
def RatS.drew{w:World}{g:Bool}{s d:Value}{q:Rat}(h:RatS w g s d q):RatS w.drew g s d q:=⟨h.num.drew,h.den.drew⟩
def zr (q:Rat):Bool:=decide (q=0)
def zIY(q:Rat):(q.num.sign == 0)=zr q:=by
 unfold zr;rw[show(q.num.sign == 0)=decide (q.num.sign=0)from rfl]
 congr 1
 rw[VM,Rat.num_eq_zero]
def ze4 (w:World) (q:Rat) (e:Ending) (w':World):Prop:=∃(g:Bool) (A:OA) (m c:Nat) (D:OA) (md cd:Nat),e=.returned (.agg #[g,(A,m,c),(D,md,cd)])/\RatS w' g (A,m,c) (D,md,cd) q/\Below w w w'
def zii (w:World) (q:Rat) (b:Bool) (e:Ending) (w':World):Prop:=∃(g:Bool) (A:OA) (m c:Nat) (D:OA) (md cd:Nat),e=.returned (.tuple #[.agg #[g,(A,m,c),(D,md,cd)],b])/\RatS w' g (A,m,c) (D,md,cd) q/\Below w w w'
def zyk(h:q.den=1):dn q=0:=by unfold dn;rw[if_pos h]
def zp0(h:q.den≠1):dn q=q.den:=by unfold dn;rw[if_neg h]
def zas.setIn{n:Nat}(h:zas w s n)(a:θ w b cs t)(c:206≠t)(u:Value):zas (w.setCell ⟨b,o,none⟩ u) s n:=h.setCell (p:=⟨b,o,none⟩) a c u
def zar(u:Value)(a:θ w b cs t):θ (w.setCell ⟨b,o,none⟩ u) b (cs.setIfInBounds o u) t:=by grind[heap_setCell_same]
def RatS.set3{d:Value}(h:RatS w g s d q)(a:θ w b cs t)(c:206≠t)(u v x:Value) :
  RatS (((w.setCell ⟨b,0,none⟩ u).setCell ⟨b,1,none⟩ v).setCell ⟨b,2,none⟩ x) g s d q :=
 ⟨⟨((h.num.abs.setIn a c u).setIn (zar u a) c v).setIn (zar v (zar u a)) c x,h.num.neg⟩,((h.den.setIn a c u).setIn (zar u a) c v).setIn (zar v (zar u a)) c x⟩
def IntS.set2{z:Int}(h:IntS w g s z)(a:θ w b cs t)(c:206≠t)(u v:Value) :
  IntS ((w.setCell ⟨b,0,none⟩ u).setCell ⟨b,1,none⟩ v) g s z :=
 ⟨(h.abs.setIn a c u).setIn (zar u a) c v,h.neg⟩
def Nt.zero'(s:Value)(n:Nat)(w:World)(a:zas w s n):Calls prog 129 #[.agg #[s]] w λe w'=>e=.returned (.bool (isZ n))/\Below w w w' :=
 (Nt.zero s n w a).mono (by simp[zae])
def Nt.of1(x:Nat)(K:Int)(f:K=(x:Int))(i:x<B64)(w:World):Calls prog 130 #[.slice (some ⟨w,0,none⟩) 1 1] (w.alloc (.cells #[.int .u64 K] 206)) (zc0 w x):=by
 subst f;have h:SR (w.alloc (.cells #[.int .u64 (x:Int)] 206)) (.slice (some ⟨w,0,none⟩) 1 1) [x]:=by
  refine⟨some ⟨w,0,none⟩,1,rfl,Za _,δ,?_,(λh=>by cases h),?_⟩;intro y b;rw[XF]at b;omega;intro k g j u a;obtain rfl:=Option.some.inj g;cases j with
  | zero=>simp only[wcells,List.map,Z8]at a;rw[<-a];exact zax rfl rfl
  | succ j=>simp[wcells]at a
 refine(Nt.of _ _ _ h (by rw[zaP];simp)).mono ?_;rintro e w' ⟨A,m,c,rfl,hn,hb⟩;have d:nval [x]=x:=by simp[nval]
 rw[d]at hn;exact⟨A,m,c,rfl,hn,(zae w _).trans (hb.mono σ)⟩
namespace It
def zBs(x:Int)(h0:x<0)(h1 : -9223372036854775808<=x):IntKind.u64.wrap (-IntKind.u64.wrap x)=(x.natAbs:Int):=by unfold IntKind.wrap IntKind.signed IntKind.bits;simp;omega
theorem zIb(x:Int)(h0:0<=x)(h1:x<=9223372036854775807)(w:World):Calls prog 82 #[.int .i64 x] w (zfg w x):=by
 have t:decide (x<0)=false:=ZJ ω;have c:=un (show x=(x.natAbs:Int)by omega);have i:=un (show x.natAbs<B64 by unfold B64;omega);obtain⟨W,a⟩:∃W,(w.alloc (.cells #[false,()] 60))=W:=⟨_,rfl⟩
 have l:=un (show θ W w.heap.size #[false,()] 60by rw[<-a];exact zam σ);have b:=un (show Below w w W by rw[<-a];exact zae w _);go_enter func82,ntmps82;go_wp2_with fail
 refine(Nt.of1 x.natAbs x c.o i.o _).mono ?_;rintro e w1 ⟨A2,m2,c2,rfl,hn,hb⟩;refine μ3 (zad hb l.o) (hn) (b.o.trans ((hb).mono b.o.size)) λr k g=>?_;go_wp2_with fail
 refine(new false A2 m2 c2 x.natAbs _ k.o).mono ?_;rintro e d ⟨g3,A3,m3,c3,rfl,hn,hb⟩;refine μ3 (zad hb r.o) (hn) (g.o.trans ((hb).mono g.o.size)) λf j s=>?_;obtain⟨o,m,u,_,q,n,y,_⟩:=bf2 f.o;go_wp2;refine Zi (v:=.agg #[g3,(A3,m3,c3)]) (by simp[results,results82,go_sem,o,m,q,n]) rfl ?_;have hi:IntS d g3 (A3,m3,c3) x:=by have h:=j.o;rwa [if_neg δ,<-c.o]at h
 exact⟨g3,A3,m3,c3,rfl,hi.set2 f.o δ _ _,bsc (bsc s.o)⟩
theorem zH9(x:Int)(h0:x<0)(h1 : -9223372036854775808<=x)(w:World):Calls prog 82 #[.int .i64 x] w (zfg w x):=by
 refine μ3 (zBs x h0 h1) (show -(x.natAbs:Int)=x by omega) (show x.natAbs<B64 by unfold B64;omega) λk l g=>?_;obtain⟨W,a⟩:∃W,(w.alloc (.cells #[false,()] 60))=W:=⟨_,rfl⟩
 have m:=un (show θ W w.heap.size #[false,()] 60by rw[<-a];exact zam σ);have b:=un (show Below w w W by rw[<-a];exact zae w _);go_enter func82,ntmps82;go_wp2_with fail
 refine(Nt.of1 x.natAbs _ k.o g.o _).mono ?_;rintro e w1 ⟨A2,m2,c2,rfl,hn,hb⟩;refine μ3 (zad hb m.o) (hn) (b.o.trans ((hb).mono b.o.size)) λs j f=>?_;go_wp2_with fail
 refine(new true A2 m2 c2 x.natAbs _ j.o).mono ?_;rintro e c ⟨g3,A3,m3,c3,rfl,hn,hb⟩;refine μ3 (zad hb s.o) (hn) (f.o.trans ((hb).mono f.o.size)) λd i t=>?_;obtain⟨q,n,u,_,r,o,y,_⟩:=bf2 d.o;go_wp2;refine Zi (v:=.agg #[g3,(A3,m3,c3)]) (by simp[results,results82,go_sem,q,n,r,o]) rfl ?_;have hi:IntS c g3 (A3,m3,c3) x:=by have h:=i.o;rwa [if_pos trivial,l.o]at h
 exact⟨g3,A3,m3,c3,rfl,hi.set2 d.o δ _ _,bsc (bsc t.o)⟩
def of(x:Int)(h0 : -9223372036854775808<=x)(h1:x<=9223372036854775807)(w:World):Calls prog 82 #[.int .i64 x] w (zfg w x):=by grind[zH9,zIb]
end It
namespace Rt
def num(g:Bool)(A:OA)(m c:Nat)(D:OA)(d a:Nat)(q:Rat)(w:World)(h:RatS w g (A,m,c) (D,d,a) q) :
  Calls prog 65 #[.agg #[g,(A,m,c),(D,d,a)]] w λe w'=>e=.returned (.agg #[g,(A,m,c)])/\Below w w w':=by
 obtain⟨W,b⟩:∃W,((w.alloc (.cells #[g,(A,m,c),(D,d,a)] 62)).alloc (.cells #[false,()] 60))=W:=⟨_,rfl⟩
 refine μ3 (show θ W w.heap.size #[g,(A,m,c),(D,d,a)] 62by rw[<-b];exact zak (zam σ)) (show θ W (w.heap.size+1) #[false,()] 60by rw[<-b];exact zam σ) (show Below w w W by rw[<-b];exact(zae w _).alloc σ _) λf i j=>?_;obtain⟨r,_,s,_⟩:=bc3 f.o;obtain⟨n,l,u,_,k,o,t,_⟩:=bf2 i.o;go_enter func65,ntmps65;go_wp2_with fail
 go_wp2;refine Zi (v:=.agg #[g,(A,m,c)]) (by simp[results,results65,go_sem,n,l,k,o]) rfl ?_;exact⟨rfl,bsc (bsc j.o)⟩
theorem zz7(g:Bool)(A:OA)(m c:Nat)(D:OA)(b a:Nat)(q:Rat)(w:World)(h:RatS w g (A,m,c) (D,b,a) q)(f:q.den=1) :
  Calls prog 67 #[.agg #[g,(A,m,c),(D,b,a)]] w (zc0 w q.den):=by
 rw[f];have j:zas w (D,b,a) 0:=by have:=h.den;rwa [zyk f]at this
 have t:isZ 0=true:=rfl;obtain⟨W,d⟩:∃W,((w.alloc (.cells #[g,(A,m,c),(D,b,a)] 62)).alloc (.cells #[()] 58))=W:=⟨_,rfl⟩
 refine μ4 (show θ W w.heap.size #[g,(A,m,c),(D,b,a)] 62by rw[<-d];exact zak (zam σ)) (show θ W (w.heap.size+1) #[()] 58by rw[<-d];exact zam σ) (show Below w w W by rw[<-d];exact(zae w _).alloc σ _) (show zas W (D,b,a) 0 by rw[<-d];exact((j).alloc _).alloc _) λr s i o=>?_;obtain⟨_,_,_,_,E,_⟩:=bc3 r.o;go_enter func67,ntmps67;go_wp2_with fail
 refine(Nt.zero' (D,b,a) 0 _ o.o).mono ?_;rintro e w1 ⟨rfl,hb⟩;have x:=un (zad hb s.o);have k:=un (i.o.trans ((hb).mono i.o.size));rw[t];go_wp2_with fail
 refine(Nt.of1 1 1 rfl δ _).mono ?_;rintro e u ⟨A2,m2,c2,rfl,hn,hb⟩;refine μ3 (zad hb x.o) (hn) (k.o.trans ((hb).mono k.o.size)) λl n B=>?_;obtain⟨z,y,C,_⟩:=bf1 l.o;go_wp2;refine Zi (v:=.agg #[(A2,m2,c2)]) (by simp[results,results67,go_sem,z,y]) rfl ?_;exact⟨A2,m2,c2,rfl,zas.setIn n.o l.o δ _,bsc B.o⟩
theorem zwF(g:Bool)(A:OA)(m c:Nat)(D:OA)(b a:Nat)(q:Rat)(w:World)(h:RatS w g (A,m,c) (D,b,a) q)(l:q.den≠1) :
  Calls prog 67 #[.agg #[g,(A,m,c),(D,b,a)]] w (zc0 w q.den):=by
 have k:zas w (D,b,a) q.den:=by have:=h.den;rwa [zp0 l]at this
 have r:=zk4 q.den_pos;obtain⟨W,d⟩:∃W,((w.alloc (.cells #[g,(A,m,c),(D,b,a)] 62)).alloc (.cells #[()] 58))=W:=⟨_,rfl⟩
 refine μ4 (show θ W w.heap.size #[g,(A,m,c),(D,b,a)] 62by rw[<-d];exact zak (zam σ)) (show θ W (w.heap.size+1) #[()] 58by rw[<-d];exact zam σ) (show Below w w W by rw[<-d];exact(zae w _).alloc σ _) (show zas W (D,b,a) q.den by rw[<-d];exact((k).alloc _).alloc _) λj o f i=>?_;obtain⟨_,_,_,_,B,_⟩:=bc3 j.o;go_enter func67,ntmps67;go_wp2_with fail
 refine(Nt.zero' (D,b,a) q.den _ i.o).mono ?_;rintro e w1 ⟨rfl,hb⟩;refine μ4 (zad hb j.o) (zad hb o.o) (i.o.below hb) (f.o.trans ((hb).mono f.o.size)) λu n y s=>?_;obtain⟨_,_,_,_,z,_⟩:=bc3 u.o;obtain⟨x,t,C,_⟩:=bf1 n.o;rw[r];go_wp2;refine Zi (v:=.agg #[(D,b,a)]) (by simp[results,results67,go_sem,x,t]) rfl ?_;exact⟨D,b,a,rfl,zas.setIn y.o n.o δ _,bsc s.o⟩
def den(g:Bool)(A:OA)(m c:Nat)(D:OA)(b a:Nat)(q:Rat)(w:World)(h:RatS w g (A,m,c) (D,b,a) q):Calls prog 67 #[.agg #[g,(A,m,c),(D,b,a)]] w (zc0 w q.den):=by grind[zz7,zwF]
def below(g:Bool)(A:OA)(m c:Nat)(D:OA)(b a:Nat)(q:Rat)(w:World)(h:RatS w g (A,m,c) (D,b,a) q):Calls prog 87 #[.agg #[g,(A,m,c),(D,b,a)]] w (zfg w (q.den:Int)):=by
 obtain⟨W,d⟩:∃W,((w.alloc (.cells #[g,(A,m,c),(D,b,a)] 62)).alloc (.cells #[false,()] 60))=W:=⟨_,rfl⟩
 refine μ4 (show θ W w.heap.size #[g,(A,m,c),(D,b,a)] 62by rw[<-d];exact zak (zam σ)) (show θ W (w.heap.size+1) #[false,()] 60by rw[<-d];exact zam σ) (show Below w w W by rw[<-d];exact(zae w _).alloc σ _) (show RatS W g (A,m,c) (D,b,a) q by rw[<-d];exact((h).alloc _).alloc _) λr s f o=>?_;obtain⟨C,_,E,_,G,_⟩:=bc3 r.o;go_enter func87,ntmps87;go_wp2_with fail
 refine(den g A m c D b a q _ o.o).mono ?_;rintro e w1 ⟨A2,m2,c2,rfl,hn,hb⟩;refine μ3 (zad hb s.o) (hn) (f.o.trans ((hb).mono f.o.size)) λt n j=>?_;go_wp2_with fail
 refine(It.new false A2 m2 c2 q.den _ n.o).mono ?_;rintro e i ⟨g3,A3,m3,c3,rfl,hn,hb⟩;refine μ3 (zad hb t.o) (hn) (j.o.trans ((hb).mono j.o.size)) λk l z=>?_;obtain⟨y,x,F,_,B,u,H,_⟩:=bf2 k.o;go_wp2;refine Zi (v:=.agg #[g3,(A3,m3,c3)]) (by simp[results,results87,go_sem,y,x,B,u]) rfl ?_;have hi:IntS i g3 (A3,m3,c3) (q.den:Int):=by have h:=l.o;rwa [if_neg δ]at h
 exact⟨g3,A3,m3,c3,rfl,hi.set2 k.o δ _ _,bsc (bsc z.o)⟩
def sign(g:Bool)(A:OA)(m c:Nat)(D:OA)(b a:Nat)(q:Rat)(w:World)(h:RatS w g (A,m,c) (D,b,a) q):Calls prog 61 #[.agg #[g,(A,m,c),(D,b,a)]] w λe w'=>e=.returned (.int .i64 q.num.sign)/\Below w w w':=by
 obtain⟨W,d⟩:∃W,(w.alloc (.cells #[g,(A,m,c),(D,b,a)] 62))=W:=⟨_,rfl⟩
 refine μ3 (show θ W w.heap.size #[g,(A,m,c),(D,b,a)] 62by rw[<-d];exact zam σ) (show Below w w W by rw[<-d];exact zae w _) (show RatS W g (A,m,c) (D,b,a) q by rw[<-d];exact(h).alloc _) λj f i=>?_;obtain⟨l,_,n,_⟩:=bc3 j.o;go_enter func61,ntmps61;go_wp2_with fail
 refine(It.sign g A m c q.num _ i.o.num).mono ?_;rintro e w1 ⟨rfl,hb⟩;have k:=un (f.o.trans ((hb).mono f.o.size));go_wp2;go_ret;exact⟨rfl,k.o⟩
theorem zero(g:Bool)(A:OA)(m c:Nat)(D:OA)(b a:Nat)(q:Rat)(w:World)(h:RatS w g (A,m,c) (D,b,a) q):Calls prog 74 #[.agg #[g,(A,m,c),(D,b,a)]] w λe w'=>e=.returned (.bool (zr q))/\Below w w w':=by
 obtain⟨W,d⟩:∃W,(w.alloc (.cells #[g,(A,m,c),(D,b,a)] 62))=W:=⟨_,rfl⟩
 refine μ3 (show θ W w.heap.size #[g,(A,m,c),(D,b,a)] 62by rw[<-d];exact zam σ) (show Below w w W by rw[<-d];exact zae w _) (show RatS W g (A,m,c) (D,b,a) q by rw[<-d];exact(h).alloc _) λj f i=>?_;obtain⟨l,_,n,_⟩:=bc3 j.o;go_enter func74,ntmps74;go_wp2_with fail
 refine(It.sign g A m c q.num _ i.o.num).mono ?_;rintro e w1 ⟨rfl,hb⟩;have k:=un (f.o.trans ((hb).mono f.o.size));go_wp2;go_ret;exact⟨by show Ending.returned (.bool (q.num.sign == 0))=.returned (.bool (zr q));rw[zIY],k.o⟩
def neg(g:Bool)(A:OA)(m c:Nat)(D:OA)(b a:Nat)(q:Rat)(w:World)(h:RatS w g (A,m,c) (D,b,a) q):Calls prog 91 #[.agg #[g,(A,m,c),(D,b,a)]] w (ze4 w (-q)):=by
 obtain⟨W,d⟩:∃W,((w.alloc (.cells #[g,(A,m,c),(D,b,a)] 62)).alloc (.cells #[false,(),()] 62))=W:=⟨_,rfl⟩
 refine μ4 (show θ W w.heap.size #[g,(A,m,c),(D,b,a)] 62by rw[<-d];exact zak (zam σ)) (show θ W (w.heap.size+1) #[false,(),()] 62by rw[<-d];exact zam σ) (show Below w w W by rw[<-d];exact(zae w _).alloc σ _) (show RatS W g (A,m,c) (D,b,a) q by rw[<-d];exact((h).alloc _).alloc _) λj n f i=>?_;obtain⟨_,E,_,C,_,G⟩:=bc3 j.o;go_enter func91,ntmps91;go_wp2_with fail
 go_region_with (first
  | (go_at_call 143;(refine(It.neg g A m c q.num _ i.o.drew.num).mono ?_);rintro e w1 ⟨g3,A3,m3,c3,rfl,hn,hb⟩;refine μ5 (zad hb j.o) (zad hb n.o) (i.o.drew.below hb) (hn) (f.o.trans ((It.bdrew0' hb).mono f.o.size)) λt k B l r=>?_;obtain⟨_,_,_,_,F,_⟩:=bc3 t.o;obtain⟨x,s,I,_,y,o,H,_,u,z,J,_⟩:=bf3 k.o))
 all_goals
  go_wp2;refine Zi (v:=.agg #[g3,(A3,m3,c3),(D,b,a)]) (by simp[results,results91,go_sem,x,s,y,o,u,z]) rfl ?_;have hi:RatS w1 g3 (A3,m3,c3) (D,b,a) (-q):=⟨l.o,B.o.den⟩
  exact⟨g3,A3,m3,c3,D,b,a,rfl,hi.set3 k.o δ _ _ _,bsc (bsc (bsc r.o))⟩
def int(x:Int)(h0 : -9223372036854775808<=x)(h1:x<=9223372036854775807)(w:World):Calls prog 30 #[.int .i64 x] w (ze4 w (x:Rat)):=by
 obtain⟨W,a⟩:∃W,(w.alloc (.cells #[false,(),()] 62))=W:=⟨_,rfl⟩
 have f:=un (show θ W w.heap.size #[false,(),()] 62by rw[<-a];exact zam σ);have b:=un (show Below w w W by rw[<-a];exact zae w _);go_enter func30,ntmps30;go_wp2_with fail
 refine(It.of x h0 h1 _).mono ?_;rintro e w1 ⟨g3,A3,m3,c3,rfl,hn,hb⟩;refine μ3 (zad hb f.o) (hn) (b.o.trans ((hb).mono b.o.size)) λc d j=>?_;obtain⟨g,k,o,_,i,l,q,_,m,n,r,_⟩:=bf3 c.o;go_wp2;refine Zi (v:=.agg #[g3,(A3,m3,c3),()]) (by simp[results,results30,go_sem,g,k,i,l,m,n]) rfl ?_;have hi:RatS w1 g3 (A3,m3,c3) () (x:Rat):=⟨d.o,zas.zero _⟩
 exact⟨g3,A3,m3,c3,none,0,0,rfl,hi.set3 c.o δ _ _ _,bsc (bsc (bsc j.o))⟩
end Rt
end Go.Proofs.YtbpjabgfcbjjmaaGreat
namespace Go.Proofs.YtbpjabgfcbjjmaaGreat
open Go.RowKit Am Tryz
attribute [local go_sem ↓] Go.wp_at_zero Go.wp_at_succ
namespace Rt
theorem zwe(g:Bool)(A:OA)(m c:Nat)(D:OA)(d b:Nat)(q:Rat)(w:World)(h:IntS w g (A,m,c) q.num)(j:zas w (D,d,b) q.den)(f:q.den=1) :
  Calls prog 135 #[.agg #[g,(A,m,c)],.agg #[(D,d,b)]] w (ze4 w q):=by
 have n:=un f;have k:q.den<18446744073709551616:=by rw[f];decide
 have o:=un k;have h1:((q.den:Int) == 1)=true:=by rw[f];rfl
 clear f k;obtain⟨W,a⟩:∃W,(((w.alloc (.cells #[g,(A,m,c)] 60)).alloc (.cells #[(D,d,b)] 58)).alloc (.cells #[false,(),()] 62))=W:=⟨_,rfl⟩
 refine μ6 (show θ W w.heap.size #[g,(A,m,c)] 60by rw[<-a];exact zak (zak (zam σ))) (show θ W (w.heap.size+1) #[(D,d,b)] 58by rw[<-a];exact zak (zam σ)) (show θ W (w.heap.size+1+1) #[false,(),()] 62by rw[<-a];exact zam σ) (show Below w w W by rw[<-a];exact((zae w _).alloc σ _).alloc (by simp;omega) _) (show IntS W g (A,m,c) q.num by rw[<-a];exact(((h).alloc _).alloc _).alloc _) (show zas W (D,d,b) q.den by rw[<-a];exact(((j).alloc _).alloc _).alloc _) λt u x i r s=>?_;obtain⟨L,_⟩:=bc1 u.o;clear h j;go_enter func135,ntmps135;go_wp2_with fail
 clear a;with_reducible refine(Nt.uint_one (D,d,b) q.den o.o _ s.o).mono ?_
 rintro e w1 ⟨rfl,hb⟩;refine μ4 (zad hb t.o) (zad hb x.o) (r.o.below hb) (i.o.trans ((hb).mono i.o.size)) λz l I y=>?_;obtain⟨J,_,K,_⟩:=bc2 z.o;obtain⟨F,C,O,_,G,E,M,_,H,B,N,_⟩:=bf3 l.o;clear hb;go_wp2;refine Zi (v:=.agg #[g,(A,m,c),()]) (by simp[results,results135,go_sem,F,C,G,E,H,B]) rfl ?_;have hi:RatS w1 g (A,m,c) () q:=⟨I.o,by rw[zyk n.o];exact zas.zero _⟩
 exact⟨g,A,m,c,none,0,0,rfl,hi.set3 l.o δ _ _ _,bsc (bsc (bsc y.o))⟩
theorem ztY(g:Bool)(A:OA)(m c:Nat)(D:OA)(b a:Nat)(q:Rat)(w:World)(h:IntS w g (A,m,c) q.num)(k:zas w (D,b,a) q.den)(l:q.den≠1)(n:q.den<18446744073709551616) :
  Calls prog 135 #[.agg #[g,(A,m,c)],.agg #[(D,b,a)]] w (ze4 w q):=by
 have r:=un l;have s:=un n;have h1:((q.den:Int) == 1)=false:=by rw[show((q.den:Int) == 1)=decide ((q.den:Int)=1)from rfl,ZJ];omega
 clear l n;obtain⟨W,d⟩:∃W,(((w.alloc (.cells #[g,(A,m,c)] 60)).alloc (.cells #[(D,b,a)] 58)).alloc (.cells #[false,(),()] 62))=W:=⟨_,rfl⟩
 refine μ6 (show θ W w.heap.size #[g,(A,m,c)] 60by rw[<-d];exact zak (zak (zam σ))) (show θ W (w.heap.size+1) #[(D,b,a)] 58by rw[<-d];exact zak (zam σ)) (show θ W (w.heap.size+1+1) #[false,(),()] 62by rw[<-d];exact zam σ) (show Below w w W by rw[<-d];exact((zae w _).alloc σ _).alloc (by simp;omega) _) (show IntS W g (A,m,c) q.num by rw[<-d];exact(((h).alloc _).alloc _).alloc _) (show zas W (D,b,a) q.den by rw[<-d];exact(((k).alloc _).alloc _).alloc _) λu j x f t i=>?_;obtain⟨O,_⟩:=bc1 j.o;clear h k;go_enter func135,ntmps135;go_wp2_with fail
 clear d;with_reducible refine(Nt.uint_one (D,b,a) q.den s.o _ i.o).mono ?_
 rintro e w1 ⟨rfl,hb⟩;refine μ6 (zad hb u.o) (zad hb j.o) (zad hb x.o) (t.o.below hb) (i.o.below hb) (f.o.trans ((hb).mono f.o.size)) λB y o J K z=>?_;obtain⟨L,_,M,_⟩:=bc2 B.o;obtain⟨N,_⟩:=bc1 y.o;obtain⟨G,E,R,_,H,F,P,_,I,C,Q,_⟩:=bf3 o.o;clear hb;go_wp2;refine Zi (v:=.agg #[g,(A,m,c),(D,b,a)]) (by simp[results,results135,go_sem,G,E,H,F,I,C]) rfl ?_;have hi:RatS w1 g (A,m,c) (D,b,a) q:=⟨J.o,by rw[zp0 r.o];exact K.o⟩
 exact⟨g,A,m,c,D,b,a,rfl,hi.set3 o.o δ _ _ _,bsc (bsc (bsc z.o))⟩
theorem zwd(g:Bool)(A:OA)(m c:Nat)(D:OA)(b a:Nat)(q:Rat)(w:World)(h:IntS w g (A,m,c) q.num)(k:zas w (D,b,a) q.den)(l:18446744073709551616<=q.den) :
  Calls prog 135 #[.agg #[g,(A,m,c)],.agg #[(D,b,a)]] w (ze4 w q):=by
 have o:=un (show q.den≠1 by omega);have r:=un l;clear l;obtain⟨W,d⟩:∃W,(((w.alloc (.cells #[g,(A,m,c)] 60)).alloc (.cells #[(D,b,a)] 58)).alloc (.cells #[false,(),()] 62))=W:=⟨_,rfl⟩
 refine μ6 (show θ W w.heap.size #[g,(A,m,c)] 60by rw[<-d];exact zak (zak (zam σ))) (show θ W (w.heap.size+1) #[(D,b,a)] 58by rw[<-d];exact zak (zam σ)) (show θ W (w.heap.size+1+1) #[false,(),()] 62by rw[<-d];exact zam σ) (show Below w w W by rw[<-d];exact((zae w _).alloc σ _).alloc (by simp;omega) _) (show IntS W g (A,m,c) q.num by rw[<-d];exact(((h).alloc _).alloc _).alloc _) (show zas W (D,b,a) q.den by rw[<-d];exact(((k).alloc _).alloc _).alloc _) λt j u f s i=>?_;obtain⟨N,_⟩:=bc1 j.o;clear h k;go_enter func135,ntmps135;go_wp2_with fail
 clear d;with_reducible refine(Nt.uint_more (D,b,a) q.den r.o _ i.o).mono ?_
 rintro e w1 ⟨rfl,hb⟩;refine μ6 (zad hb t.o) (zad hb j.o) (zad hb u.o) (s.o.below hb) (i.o.below hb) (f.o.trans ((hb).mono f.o.size)) λz x n I J y=>?_;obtain⟨K,_,L,_⟩:=bc2 z.o;obtain⟨M,_⟩:=bc1 x.o;obtain⟨F,C,Q,_,G,E,O,_,H,B,P,_⟩:=bf3 n.o;clear hb;go_wp2;refine Zi (v:=.agg #[g,(A,m,c),(D,b,a)]) (by simp[results,results135,go_sem,F,C,G,E,H,B]) rfl ?_;have hi:RatS w1 g (A,m,c) (D,b,a) q:=⟨I.o,by rw[zp0 o.o];exact J.o⟩
 exact⟨g,A,m,c,D,b,a,rfl,hi.set3 n.o δ _ _ _,bsc (bsc (bsc y.o))⟩
def bare(g:Bool)(A:OA)(m c:Nat)(D:OA)(b a:Nat)(q:Rat)(w:World)(h:IntS w g (A,m,c) q.num)(d:zas w (D,b,a) q.den)  :
  Calls prog 135 #[.agg #[g,(A,m,c)],.agg #[(D,b,a)]] w (ze4 w q):=by grind[zwe,ztY,zwd]
def div_num(x y:Int)(c:y≠0):(if (!(decide (x<0) == decide (y<0)))=true then -((x.natAbs/Nat.gcd x.natAbs y.natAbs:Nat):Int)else ((x.natAbs/Nat.gcd x.natAbs y.natAbs:Nat):Int))=(Rat.divInt x y).num:=by
 rw[Rat.num_divInt];have hg:y.gcd x=Nat.gcd x.natAbs y.natAbs:=by rw[Y3];rfl
 rw[hg];have b:(Nat.gcd x.natAbs y.natAbs)∣x.natAbs:=Nat.gcd_dvd_left _ _;generalize Nat.gcd x.natAbs y.natAbs=k at *
 have e:((x.natAbs/k:Nat):Int)=(x.natAbs:Int)/(k:Int):=XS _ _;rw[e];have en:(-(x.natAbs:Int))/(k:Int) = -((x.natAbs:Int)/(k:Int)):=Int.neg_ediv_of_dvd (Int.natCast_dvd_natCast.2 b);grind
def div_den(x y:Int)(a:y≠0):y.natAbs/Nat.gcd x.natAbs y.natAbs=(Rat.divInt x y).den:=by rw[Rat.den_divInt,if_neg a,Y3];rfl
end Rt
namespace Rt
def newd(g:Bool)(A:OA)(m c:Nat)(x:Int)(g':Bool)(B:OA)(m' c':Nat)(y:Int)(w:World)(h:IntS w g (A,m,c) x)(S:IntS w g' (B,m',c') y)(N:y≠0)(T:wlen x.natAbs+1<=LIM)(U:wlen y.natAbs+1<=LIM) :
  Calls prog 81 #[.agg #[g,(A,m,c)],.agg #[g',(B,m',c')]] w (zii w (Rat.divInt x y) true):=by
 have dp:(y.sign == 0)=false:=by rw[show(y.sign == 0)=decide (y.sign=0)from rfl,ZJ];rw[VM];exact N
 refine μ3 N T U λM cw cx=>?_;clear N T U;obtain⟨W,n⟩:∃W,(((w.alloc (.cells #[g,(A,m,c)] 60)).alloc (.cells #[g',(B,m',c')] 60)).alloc (.cells #[false,(),()] 62))=W:=⟨_,rfl⟩
 refine μ7 (show θ W w.heap.size #[g,(A,m,c)] 60by rw[<-n];exact zak (zak (zam σ))) (show θ W (w.heap.size+1) #[g',(B,m',c')] 60by rw[<-n];exact zak (zam σ)) (show θ W (w.heap.size+1+1) #[false,(),()] 62by rw[<-n];exact zam σ) (show Below w w W by rw[<-n];exact((zae w _).alloc σ _).alloc (by simp;omega) _) (show w.heap.size+3<=W.heap.size by rw[<-n];simp) (show IntS W g (A,m,c) x by rw[<-n];exact(((h).alloc _).alloc _).alloc _) (show IntS W g' (B,m',c') y by rw[<-n];exact(((S).alloc _).alloc _).alloc _) λcC R cD O HZ HX Q=>?_;obtain⟨dA,_,dx,_⟩:=bc2 R.o;clear h S;go_enter func81,ntmps81;go_wp2_with fail
 clear n;with_reducible refine(It.sign g' B m' c' y _ Q.o).mono ?_
 rintro e w1 ⟨rfl,hb⟩;refine μ6 (zad hb cC.o) (zad hb R.o) (zad hb cD.o) (HX.o.below hb) (Q.o.below hb) (O.o.trans ((hb).mono O.o.size)) λad aa al aD cr ac=>?_;obtain⟨cT,_,cU,_⟩:=bc2 ad.o;obtain⟨cV,_,cW,_⟩:=bc2 aa.o;clear hb;go_wp2_with fail
 have P:=un (show ∀w',Below w1 w1 w'->((χ w' w 0 (.bool g)/\χ w' w 1 (A,m,c)/\χ w' (w.heap.size+1) 0 (.bool g')/\χ w' (w.heap.size+1) 1 (B,m',c'))/\Below w1 w1 w')from λw' h=>⟨⟨zab h cT,zab h cU,zab h cV,zab h cW⟩,h⟩);go_cut[6,7] (λs6 s7 wr=>∃(D n7:Nat) (d:OA) (k i:Nat) (f:OA) (l j:Nat),s6=.pointer (some ⟨D,0,none⟩)/\s7=.pointer (some ⟨n7,0,none⟩)/\Below w1 w1 wr/\χ wr D 0 (d,k,i)/\χ wr n7 0 (f,l,j)/\zas wr (d,k,i) (x.natAbs/Nat.gcd x.natAbs y.natAbs)/\zas wr (f,l,j) (y.natAbs/Nat.gcd x.natAbs y.natAbs)/\w1.heap.size<=D/\w1.heap.size<=n7)
 case first =>
  go_region_held3 (λw'=>((χ w' w 0 (.bool g)/\χ w' w 1 (A,m,c)/\χ w' (w.heap.size+1) 0 (.bool g')/\χ w' (w.heap.size+1) 1 (B,m',c'))/\Below w1 w1 w'))
   ((refine P.o _ ?_;repeat(first | exact Zl _ _ | exact(by assumption:_/\Below _ _ _).2 | with_reducible refine bdrew ?_ | with_reducible refine al2 ?_ _ | with_reducible refine set2 ?_ ω | with_reducible refine zc1 ?_ (by assumption))))
   (first
    | (go_at_call 134;(with_reducible refine(It.abs g A m c _).mono ?_);rintro e u1 ⟨rfl,hb1⟩;have cE:=hb1.size;(try simp at cE);have dr:w1.heap.size<=u1.heap.size:=ω;(try((first | (have a:=zan (b:=w1.heap.size) (v:=.slice none 0 0) (t:=58) hb1 (zal _ _ _);obtain⟨o,⟨aM,aP⟩,⟨aN,aQ⟩,⟨aO,aR⟩,⟨aS,aT⟩,aU,aV⟩:=a) | (have a:=zan (b:=w1.heap.size) (v:=.slice none 0 0) (t:=58) hb1 (zak (zal _ _ _));obtain⟨o,⟨aM,aP⟩,⟨aN,aQ⟩,⟨aO,aR⟩,⟨aS,aT⟩,aU,aV⟩:=a) | (have a:=zan (b:=w1.heap.size) (v:=.slice none 0 0) (t:=58) hb1 (zbD _ _ _ _);obtain⟨o,⟨aM,aP⟩,⟨aN,aQ⟩,⟨aO,aR⟩,⟨aS,aT⟩,aU,aV⟩:=a));have o:=un o));(try((first | (have a:=zan (b:=w1.heap.size+1) (v:=.slice none 0 0) (t:=58) hb1 (zal _ _ _);obtain⟨z,⟨bD,bG⟩,⟨bE,bH⟩,⟨bF,bI⟩,⟨bJ,bK⟩,bs,bt⟩:=a) | (have a:=zan (b:=w1.heap.size+1) (v:=.slice none 0 0) (t:=58) hb1 (zak (zal _ _ _));obtain⟨z,⟨bD,bG⟩,⟨bE,bH⟩,⟨bF,bI⟩,⟨bJ,bK⟩,bs,bt⟩:=a) | (have a:=zan (b:=w1.heap.size+1) (v:=.slice none 0 0) (t:=58) hb1 (zbD _ _ _ _);obtain⟨z,⟨bD,bG⟩,⟨bE,bH⟩,⟨bF,bI⟩,⟨bJ,bK⟩,bs,bt⟩:=a));have z:=un z)))
    | (go_at_call 134;(with_reducible refine(It.abs g' B m' c' _).mono ?_);rintro e u2 ⟨rfl,hb2⟩;have cF:=hb2.size;(try simp at cF);have ds:=ω;(try((first | (have a:=zan (b:=w1.heap.size) (v:=.slice none 0 0) (t:=58) hb2 (o.o);obtain⟨r,⟨aq,av⟩,⟨ar,aw⟩,⟨au,ax⟩,⟨ay,az⟩,aA,aB⟩:=a) | (have a:=zan (b:=w1.heap.size) (v:=.slice none 0 0) (t:=58) hb2 (zak o.o);obtain⟨r,⟨aq,av⟩,⟨ar,aw⟩,⟨au,ax⟩,⟨ay,az⟩,aA,aB⟩:=a) | (have a:=zan (b:=w1.heap.size) (v:=.slice none 0 0) (t:=58) hb2 (zak (zak o.o));obtain⟨r,⟨aq,av⟩,⟨ar,aw⟩,⟨au,ax⟩,⟨ay,az⟩,aA,aB⟩:=a));have r:=un r));(try((first | (have a:=zan (b:=w1.heap.size+1) (v:=.slice none 0 0) (t:=58) hb2 (z.o);obtain⟨C,⟨bu,bx⟩,⟨bv,bz⟩,⟨bw,bA⟩,⟨bB,bC⟩,b1,b2⟩:=a) | (have a:=zan (b:=w1.heap.size+1) (v:=.slice none 0 0) (t:=58) hb2 (zak z.o);obtain⟨C,⟨bu,bx⟩,⟨bv,bz⟩,⟨bw,bA⟩,⟨bB,bC⟩,b1,b2⟩:=a) | (have a:=zan (b:=w1.heap.size+1) (v:=.slice none 0 0) (t:=58) hb2 (zak (zak z.o));obtain⟨C,⟨bu,bx⟩,⟨bv,bz⟩,⟨bw,bA⟩,⟨bB,bC⟩,b1,b2⟩:=a));have C:=un C));(try((first | (have a:=zan (b:=u1.heap.size) (v:=.slice none 0 0) (t:=58) hb2 (zal _ _ _);obtain⟨s,⟨aW,aF⟩,⟨aX,aG⟩,⟨aE,aH⟩,⟨aI,aJ⟩,aK,aL⟩:=a) | (have a:=zan (b:=u1.heap.size) (v:=.slice none 0 0) (t:=58) hb2 (zak (zal _ _ _));obtain⟨s,⟨aW,aF⟩,⟨aX,aG⟩,⟨aE,aH⟩,⟨aI,aJ⟩,aK,aL⟩:=a) | (have a:=zan (b:=u1.heap.size) (v:=.slice none 0 0) (t:=58) hb2 (zbD _ _ _ _);obtain⟨s,⟨aW,aF⟩,⟨aX,aG⟩,⟨aE,aH⟩,⟨aI,aJ⟩,aK,aL⟩:=a));have s:=un s));(try((first | (have a:=zan (b:=u1.heap.size+1) (v:=.slice none 0 0) (t:=58) hb2 (zal _ _ _);obtain⟨u,⟨b3,b6⟩,⟨b4,b7⟩,⟨b5,b8⟩,⟨b9,ca⟩,cb,cc⟩:=a) | (have a:=zan (b:=u1.heap.size+1) (v:=.slice none 0 0) (t:=58) hb2 (zak (zal _ _ _));obtain⟨u,⟨b3,b6⟩,⟨b4,b7⟩,⟨b5,b8⟩,⟨b9,ca⟩,cb,cc⟩:=a) | (have a:=zan (b:=u1.heap.size+1) (v:=.slice none 0 0) (t:=58) hb2 (zbD _ _ _ _);obtain⟨u,⟨b3,b6⟩,⟨b4,b7⟩,⟨b5,b8⟩,⟨b9,ca⟩,cb,cc⟩:=a));have u:=un u)))
    | (go_at_call 133;(with_reducible refine(Gc.reduce A B m c m' c' x.natAbs y.natAbs _ (by have h:=(aD.o.below (by assumption:_/\Below _ _ _).2);exact h.abs) (by have h:=(cr.o.below (by assumption:_/\Below _ _ _).2);exact h.abs) (Int.natAbs_pos.2 M.o) cw.o cx.o).mono ?_);rintro e u3 ⟨d,k,i,f,l,j,rfl,hn,hn2,hb3⟩;have cG:=hb3.size;(try simp at cG);have dt:w1.heap.size<=u3.heap.size:=ω;(try((first | (have a:=zan (b:=w1.heap.size) (v:=.slice none 0 0) (t:=58) hb3 (r.o);obtain⟨F,⟨be,bh⟩,⟨bf,aY⟩,⟨bg,aZ⟩,⟨a0,a1⟩,a2,a3⟩:=a) | (have a:=zan (b:=w1.heap.size) (v:=.slice none 0 0) (t:=58) hb3 (zak r.o);obtain⟨F,⟨be,bh⟩,⟨bf,aY⟩,⟨bg,aZ⟩,⟨a0,a1⟩,a2,a3⟩:=a) | (have a:=zan (b:=w1.heap.size) (v:=.slice none 0 0) (t:=58) hb3 (zak (zak r.o));obtain⟨F,⟨be,bh⟩,⟨bf,aY⟩,⟨bg,aZ⟩,⟨a0,a1⟩,a2,a3⟩:=a));have F:=un F));(try((first | (have a:=zan (b:=w1.heap.size+1) (v:=.slice none 0 0) (t:=58) hb3 (C.o);obtain⟨I,⟨cd,cg⟩,⟨ce,ch⟩,⟨cf,ci⟩,⟨cj,ck⟩,cl,cm⟩:=a) | (have a:=zan (b:=w1.heap.size+1) (v:=.slice none 0 0) (t:=58) hb3 (zak C.o);obtain⟨I,⟨cd,cg⟩,⟨ce,ch⟩,⟨cf,ci⟩,⟨cj,ck⟩,cl,cm⟩:=a) | (have a:=zan (b:=w1.heap.size+1) (v:=.slice none 0 0) (t:=58) hb3 (zak (zak C.o));obtain⟨I,⟨cd,cg⟩,⟨ce,ch⟩,⟨cf,ci⟩,⟨cj,ck⟩,cl,cm⟩:=a));have I:=un I));(try((first | (have a:=zan (b:=u1.heap.size) (v:=.slice none 0 0) (t:=58) hb3 (s.o);obtain⟨G,⟨a4,a7⟩,⟨a5,a8⟩,⟨a6,a9⟩,⟨ba,bb⟩,bc,bd⟩:=a) | (have a:=zan (b:=u1.heap.size) (v:=.slice none 0 0) (t:=58) hb3 (zak s.o);obtain⟨G,⟨a4,a7⟩,⟨a5,a8⟩,⟨a6,a9⟩,⟨ba,bb⟩,bc,bd⟩:=a) | (have a:=zan (b:=u1.heap.size) (v:=.slice none 0 0) (t:=58) hb3 (zak (zak s.o));obtain⟨G,⟨a4,a7⟩,⟨a5,a8⟩,⟨a6,a9⟩,⟨ba,bb⟩,bc,bd⟩:=a));have G:=un G));(try((first | (have a:=zan (b:=u1.heap.size+1) (v:=.slice none 0 0) (t:=58) hb3 (u.o);obtain⟨J,⟨cn,cq⟩,⟨co,bL⟩,⟨cp,bM⟩,⟨bN,bO⟩,bP,bQ⟩:=a) | (have a:=zan (b:=u1.heap.size+1) (v:=.slice none 0 0) (t:=58) hb3 (zak u.o);obtain⟨J,⟨cn,cq⟩,⟨co,bL⟩,⟨cp,bM⟩,⟨bN,bO⟩,bP,bQ⟩:=a) | (have a:=zan (b:=u1.heap.size+1) (v:=.slice none 0 0) (t:=58) hb3 (zak (zak u.o));obtain⟨J,⟨cn,cq⟩,⟨co,bL⟩,⟨cp,bM⟩,⟨bN,bO⟩,bP,bQ⟩:=a));have J:=un J));(try((first | (have a:=zan (b:=u2.heap.size) (v:=.slice none 0 0) (t:=58) hb3 (zal _ _ _);obtain⟨H,⟨bi,bl⟩,⟨bj,bm⟩,⟨bk,bn⟩,⟨bo,bp⟩,bq,br⟩:=a) | (have a:=zan (b:=u2.heap.size) (v:=.slice none 0 0) (t:=58) hb3 (zak (zal _ _ _));obtain⟨H,⟨bi,bl⟩,⟨bj,bm⟩,⟨bk,bn⟩,⟨bo,bp⟩,bq,br⟩:=a) | (have a:=zan (b:=u2.heap.size) (v:=.slice none 0 0) (t:=58) hb3 (zbD _ _ _ _);obtain⟨H,⟨bi,bl⟩,⟨bj,bm⟩,⟨bk,bn⟩,⟨bo,bp⟩,bq,br⟩:=a));have H:=un H));(try((first | (have a:=zan (b:=u2.heap.size+1) (v:=.slice none 0 0) (t:=58) hb3 (zal _ _ _);obtain⟨K,⟨bR,bU⟩,⟨bS,bV⟩,⟨bT,bW⟩,⟨bX,bY⟩,bZ,b0⟩:=a) | (have a:=zan (b:=u2.heap.size+1) (v:=.slice none 0 0) (t:=58) hb3 (zak (zal _ _ _));obtain⟨K,⟨bR,bU⟩,⟨bS,bV⟩,⟨bT,bW⟩,⟨bX,bY⟩,bZ,b0⟩:=a) | (have a:=zan (b:=u2.heap.size+1) (v:=.slice none 0 0) (t:=58) hb3 (zbD _ _ _ _);obtain⟨K,⟨bR,bU⟩,⟨bS,bV⟩,⟨bT,bW⟩,⟨bX,bY⟩,bZ,b0⟩:=a));have K:=un K));have L:=un hn;have cy:=un hn2;clear hn hn2)
    | fail)
  all_goals
   go_wp2;go_meet;refine⟨_,_,d,k,i,f,l,j,rfl,rfl,(by assumption:_/\Below w1 w1 _).2,?_,?_,?_,?_,?_,?_⟩
   all_goals
    repeat' (first
     | with_reducible exact L.o
     | with_reducible exact cy.o
     | with_reducible assumption
     | with_reducible exact zeo _ _ _
     | with_reducible exact zfx _ _ _ _
     | with_reducible refine cell_al ?_
     | with_reducible refine Box.cell ?_
     | with_reducible refine cell_set ?_ ?_
     | with_reducible exact Box.new _ _
     | with_reducible exact Box.new1 _ _ _
     | with_reducible refine Box.alloc ?_
     | with_reducible refine Box.set ?_
     | exact Box.of F.o
     | exact Box.of I.o
     | exact Box.of G.o
     | exact Box.of J.o
     | exact Box.of H.o
     | exact Box.of K.o
     | with_reducible refine zas.alloc ?_ _
     | with_reducible refine zas.setBox ?_ ?_
     | with_reducible refine zas.drew ?_
     | omega)
 obtain⟨D,n7,d,k,i,f,l,j,rfl,rfl,E,Y,Z,V,X,dm,dn⟩:=hcut;have dq:w.heap.size+1+1+1<=w1.heap.size:=by have:=HZ.o;have:=(ZU.1 al.o).1;omega
 refine μ5 (div_den x y M.o) (zad E ad.o) (zad E aa.o) (zad E al.o) (show zas wc (d,k,i) (x.natAbs/Nat.gcd x.natAbs y.natAbs)from V) λHE ab ae dc L=>?_;have HD:=un (show zas wc (f,l,j) (Rat.divInt x y).den from(HE.o▸X));have af:=un (ac.o.trans ((E).mono ac.o.size));obtain⟨dv,_,dw,_⟩:=bc2 ab.o;obtain⟨dy,_,dz,_⟩:=bc2 ae.o;have cX:χ wc D 0 (d,k,i):=Y;have cM:=zaa cX;have c1:χ wc n7 0 (f,l,j):=Z;have cN:=zaa c1;clear E V X Y Z P;have cu:=un (show(if (!(g == g'))=true then -((x.natAbs/Nat.gcd x.natAbs y.natAbs:Nat):Int)else ((x.natAbs/Nat.gcd x.natAbs y.natAbs:Nat):Int))=(Rat.divInt x y).num by rw[aD.o.neg,cr.o.neg];exact div_num x y M.o);generalize Rat.divInt x y=q at *
 go_wp2_with fail
 go_region_held3 (λw'=>χ w' w 0 (.bool g)/\χ w' w 1 (A,m,c)/\χ w' (w.heap.size+1) 0 (.bool g')/\χ w' (w.heap.size+1) 1 (B,m',c')/\χ w' D 0 (d,k,i)/\χ w' n7 0 (f,l,j))
  (((try go_split_ands);(try simp only[Xi]);(repeat' apply And.intro)<;>(repeat(first | with_reducible assumption | with_reducible refine cell_set ω ?_ | with_reducible refine cell_al ?_))))
  (first
   | (go_at_call 136;(with_reducible refine(It.isBelow g A m c _).mono ?_);rintro e v1 ⟨rfl,hb⟩;refine μ6 (zad hb ab.o) (zad hb ae.o) (zad hb dc.o) (L.o.drew.below hb) (HD.o.drew.below hb) (af.o.trans ((It.bdrew0' hb).mono af.o.size)) λag ap dl cR cO aj=>?_;obtain⟨dH,_,dI,_⟩:=bc2 ag.o;obtain⟨dL,_,dN,_⟩:=bc2 ap.o;have c0:=zab hb cM;have c7:=zab hb cN;clear hb)
   | (go_at_call 136;(with_reducible refine(It.isBelow g' B m' c' _).mono ?_);rintro e v2 ⟨rfl,hb⟩;refine μ6 (zad hb ag.o) (zad hb ap.o) (zad hb dl.o) (cR.o.below hb) (cO.o.below hb) (aj.o.trans ((hb).mono aj.o.size)) λah ai c8 cS cP an=>?_;obtain⟨dB,_,dC,_⟩:=bc2 ah.o;obtain⟨dF,_,dG,_⟩:=bc2 ai.o;have cY:=zab hb c0;have c6:=zab hb c7;clear hb)
   | (go_at_call 89;(with_reducible refine(It.new (!(g == g')) d k i (x.natAbs/Nat.gcd x.natAbs y.natAbs) _ cS.o).mono ?_);rintro e v3 ⟨g4,A4,m4,c4,rfl,hi,hb⟩;refine μ6 (zad hb ah.o) (zad hb ai.o) (zad hb c8.o) (cP.o.below hb) (show IntS v3 g4 (A4,m4,c4) q.num from(by rw[cu.o]at hi;exact hi)) (an.o.trans ((hb).mono an.o.size)) λak am c9 cQ HI ao=>?_;obtain⟨dD,_,dE,_⟩:=bc2 ak.o;obtain⟨dM,_,dO,_⟩:=bc2 am.o;have da:=zab hb cY;have dj:=zab hb c6;clear hi hb)
   | (go_at_call 135;(with_reducible refine(bare g4 A4 m4 c4 f l j q _ HI.o cQ.o).mono ?_);rintro e v4 ⟨g5,A5,m5,c5,D5,md5,cd5,rfl,hi,hb⟩;refine μ5 (zad hb ak.o) (zad hb am.o) (zad hb c9.o) (hi) (ao.o.trans ((hb).mono ao.o.size)) λcZ db aC HR dk=>?_;obtain⟨dJ,_,dK,_⟩:=bc2 cZ.o;obtain⟨dP,_,dQ,_⟩:=bc2 db.o;obtain⟨dg,dd,dR,_,dh,de,dS,_,di,df,dT,_⟩:=bf3 aC.o;have dU:=zab hb da;have dV:=zab hb dj;clear hi hb)
   | fail)
 all_goals
  go_wp2;refine Zi (v:=.tuple #[.agg #[g5,(A5,m5,c5),(D5,md5,cd5)],true]) (by simp[results,results81,go_sem,dg,dd,dh,de,di,df]) rfl ?_;exact⟨g5,A5,m5,c5,D5,md5,cd5,rfl,HR.o.set3 aC.o δ _ _ _,bsc (bsc (bsc dk.o))⟩
end Rt
end Go.Proofs.YtbpjabgfcbjjmaaGreat
namespace Go.Proofs.YtbpjabgfcbjjmaaGreat
open Go.RowKit Am Tryz
variable {g:Bool}{p:Int}{qs:List Rat}{H a b c k m n:Nat}{A D:OA}{q:Rat}{d s v v0 v1:Value}{B u w w':World}
def ze0:(prog.info? 62).map (λi=>(i.zero,i.size,i.bytes))=some (some (.agg #[false,(),()]),3,56):=ξ
abbrev RV:=Bool × Value × Value
def rcells (l:List RV):List Value:=l.flatMap λr=>[.bool r.1,r.2.1,r.2.2]
theorem zcy(r:RV)(l:List RV):rcells (r::l)=.bool r.1::r.2.1::r.2.2::rcells l:=by simp[rcells]
def zcC(l:List RV):(rcells l).length=l.length*3:=by
 induction l with
 | nil=>rfl
 | cons r l ih=>rw[zcy];grind
def zh4(a b:List RV):rcells (a++b)=rcells a++rcells b:=by simp[rcells]
def ziI(l:List RV):∀(k:Nat) (r:RV),l[k]? = some r->(rcells l)[k*3]? = some (.bool r.1)/\(rcells l)[k*3+1]? = some r.2.1/\(rcells l)[k*3+2]? = some r.2.2:=by
 induction l with
 | nil=>grind
 | cons a l ih =>
  grind[zcy]
def zss(l:List RV):∀(k:Nat) (r:RV),(((rcells l).set (k*3) (.bool r.1)).set (k*3+1) r.2.1).set (k*3+2) r.2.2=rcells (l.set k r):=by
 induction l with
 | nil=>intro k r;simp[rcells]
 | cons a l ih =>
  intro k r;cases k with
  | zero=>simp[zcy]
  | succ k =>
   rw[show(k+1)*3=k*3+1+1+1 by omega,List.set_cons_succ,zcy,zcy,<-ih k r];simp
def ziJ(l:List RV)(h:∀r∈l,r.2.1.oneCell'=true/\r.2.2.oneCell'=true):∀u∈rcells l,u.oneCell'=true:=by intro u a;simp only[rcells,List.mem_flatMap]at a;obtain⟨p,b,a⟩:=a;simp at a;rcases a with rfl | rfl | rfl;rfl;exact(h p b).1;grind
def RatS.shape(h:RatS w g s d q):∃(A:OA) (m c:Nat) (D:OA) (b a:Nat),s=(A,m,c)/\d=.slice D b a:=by obtain⟨A,m,c,rfl⟩:=h.num.abs.slice;obtain⟨D,b,a,rfl⟩:=h.den.slice;grind
theorem RatS.zero(w:World):RatS w false () () 0:=⟨⟨zas.zero w,rfl⟩,zas.zero w⟩
def zff (w w':World):Prop:=∀k,k<w.heap.size->(∀cs,w.heap[k]? ≠ some (.cells cs 62 (0,0)))->w'.heap[k]? = w.heap[k]?
def zas.keepT(h:zas w s n)(hk:zff w w'):zas w' s n:=by obtain⟨xs,a,c⟩:=h;refine⟨xs,a.keep λk b=>hk k (a.block b) λcs e=>?_,c⟩;exact za6 a.1 e δ b
def RatS.keepT{w w':World}{g:Bool}{s d:Value}{q:Rat}(h:RatS w g s d q)(hk:zff w w'):RatS w' g s d q:=⟨⟨h.num.abs.keepT hk,h.num.neg⟩,h.den.keepT hk⟩
structure VecS (w:World) (H:Nat) (v:Value) (qs:List Rat):Prop where
  row:∃l:List RV,l.length=qs.length/\(∀(k:Nat) (r:RV) (q:Rat),l[k]? = some r->qs[k]? = some q->RatS w r.1 r.2.1 r.2.2 q)/\w.ownsRow H 62 3 v qs.length (rcells l)
def zc9{e:TypeId}{size:Nat}{ys:List Value}(h:w.ownsRow H e size s n ys)(hk:∀k,s.ownBlock=some k->w'.heap[k]? = w.heap[k]?):w'.ownsRow H e size s n ys:=by
 refine⟨h.1,?_⟩;rcases h.2 with h2 | ⟨g,cap,cur,hv,hg,hh,r⟩
 grind;exact .inr ⟨g,cap,cur,hv,hg,by rw[hk g (by rw[hv];rfl)];exact hh,r⟩
namespace VecS
variable {w w':World} {H:Nat} {v:Value} {qs:List Rat}
def lt(h:VecS w H v qs){k:Nat}(hk:v.ownBlock=some k):H<=k/\k<w.heap.size:=by obtain⟨l,_,_,h⟩:=h.row;exact h.lt k hk
def keepAll(h:VecS w H v qs)(hk:∀k,v.ownBlock=some k->w'.heap[k]? = w.heap[k]?)(hr:∀g s d q,RatS w g s d q->RatS w' g s d q):VecS w' H v qs:=by obtain⟨l,h1,c,e⟩:=h.row;exact⟨l,h1,λk r q a b=>hr _ _ _ _ (c k r q a b),zc9 e hk⟩
def below(h:VecS w H v qs)(a:Below w w w'):VecS w' H v qs:=h.keepAll (λk hk=>a.block k (h.lt hk).2) λ_ _ _ _ r=>r.below a
def alloc(h:VecS w H v qs)(o:Obj):VecS (w.alloc o) H v qs:=h.below (zae w o)
def drew(h:VecS w H v qs):VecS w.drew H v qs:=h.below (zap w 1)
def base(h:VecS w H v qs)(d:a<=H):VecS w a v qs:=by obtain⟨l,h1,b,c⟩:=h.row;exact⟨l,h1,b,zbu c d⟩
def setCell(h:VecS w H v qs){p:Addr}{t:TypeId}{cs:Array Value}(b:v.ownBlock≠some p.block)(hg:θ w p.block cs t)(a:206≠t)(u:Value):VecS (w.setCell p u) H v qs :=
 h.keepAll (λk hk=>ZE w p u k (λe=>b (by rw[hk,e]))) λ_ _ _ _ r=>⟨⟨r.num.abs.setCell hg a u,r.num.neg⟩,r.den.setCell hg a u⟩
theorem nil(w:World)(H:Nat):VecS w H () []:=⟨[],rfl,λk r q h=>by simp at h,Xs _ _ _ _⟩
def form(h:VecS w H (A,n,c) qs):n=qs.length/\n<=c/\c<=maxLen/\((A=none/\c=0/\qs=[])\/∃g,A=some ⟨g,0,none⟩/\H<=g/\g<w.heap.size):=by
 obtain⟨l,_,_,d⟩:=h.row;rcases d.2 with ⟨b,a⟩ | ⟨g,cap,cur,b,hg,e,a,hm,_⟩
 injection b with e1 e2 e3;subst e1 e2 e3;exact⟨a.symm,Za _,Zb _,.inl ⟨rfl,rfl,Xo.1 a⟩⟩;grind
def len(h:VecS w H (A,n,c) qs):n=qs.length:=h.form.1
def has(h:VecS w H (A,n,c) qs)(e:0<n):∃g,A=some ⟨g,0,none⟩/\H<=g/\g<w.heap.size:=by obtain⟨h1,b,d,a | a⟩:=h.form;omega;exact a
def slice(h:VecS w H v qs):∃A n c,v=.slice A n c:=by
 obtain⟨l,_,_,b⟩:=h.row;rcases b.2 with ⟨a,d⟩ | ⟨g,cap,cur,a,_⟩
 exact⟨_,_,_,a⟩;grind
def at_(h:VecS w H (b,n,c) qs)(hk:qs[k]? = some q) :
  ∃(g:Bool) (A:OA) (m c:Nat) (D:OA) (d a:Nat),χ w b (k*3) (.bool g)/\χ w b (k*3+1) (A,m,c)/\χ w b (k*3+2) (D,d,a)/\RatS w g (A,m,c) (D,d,a) q:=by
 have u:=h.len;subst u;obtain⟨l,h1,t,e⟩:=h.row;have x:k<qs.length:=(ZF.1 hk).1;obtain⟨r,hr⟩:∃r,l[k]? = some r:=⟨l[k]' ω,Ze _⟩
 have f:=t k r q hr hk;obtain⟨A,m,c,D,d,a,i,j⟩:=f.shape;obtain⟨o,p,s⟩:=ziI l k r hr;refine⟨r.1,A,m,c,D,d,a,?_,?_,?_,?_⟩;rw[e.cellAt _ ω];exact o;rw[e.cellAt _ ω,p,i];rw[e.cellAt _ ω,s,j];grind
def fro(h:VecS w H (b,n,c) qs)(j:Nat):w.frozen? ⟨b,j,none⟩=false:=by have d:=h.len;subst d;obtain⟨l,_,_,a⟩:=h.row;exact a.frozenAt j
def store(h:VecS w H (b,n,c) qs)(k:Nat)(y:RatS w g s d q) :
  VecS (((w.setCell ⟨b,k*3,none⟩ g).setCell ⟨b,k*3+1,none⟩ s).setCell ⟨b,k*3+2,none⟩ d) H (b,n,c) (qs.set k q):=by
 have p:=h.len;subst p;obtain⟨l,h1,t,i⟩:=h.row;have m:zff w (((w.setCell ⟨b,k*3,none⟩ g).setCell ⟨b,k*3+1,none⟩ s).setCell ⟨b,k*3+2,none⟩ d):=by
  intro j hj x;have e:j≠b:=by
   rintro rfl;rcases i.2 with ⟨f,p⟩ | ⟨g,cap,cur,f,hg,u,_⟩
   cases f;grind
  rw[ZE _ _ _ _ (by exact e),ZE _ _ _ _ (by exact e),ZE _ _ _ _ (by exact e)]
 refine⟨l.set k (g,s,d),by simp[h1],?_,?_⟩;intro j r z hr a;by_cases hj:k=j;subst hj;have o:=(ZF.1 hr).1;rw[ZW]at o;rw[YB o]at hr;rw[YB ω]at a;injection hr with hr;injection a with a;subst hr a;exact y.keepT m;rw[YC hj]at hr a;exact(t j r z hr a).keepT m;rw[ZW,<-zss];exact(((i.stored _ _).1.stored _ _).1.stored _ _).1
end VecS
def zh3{xs:List Value}(h:w.ownsRow H 62 3 v n xs)(hg:w.grownBy w' v.ownBlock):zff w w':=by
 intro k hk c;refine hg.block k hk λe=>?_;rcases h.2 with ⟨a,_⟩ | ⟨g,cap,cur,a,_,b,_⟩
 rw[a]at e;cases e;rw[a]at e;injection e with e;grind
def VecS.append{c:Value}{l:List RV}(b:l.length=qs.length)(hr:∀(k:Nat) (r:RV) (q:Rat),l[k]? = some r->qs[k]? = some q->RatS w r.1 r.2.1 r.2.2 q)(i:w.ownsRow H 62 3 v qs.length (rcells l))
     (f:RatS w g s d q) (e:w'.ownsRow H 62 3 c (qs.length+1) (rcells l++[.bool g,s,d])) (hg:w.grownBy w' v.ownBlock):VecS w' H c (qs++[q]):=by
 have hk:=zh3 i hg;refine⟨l++[(g,s,d)],by simp[b],?_,?_⟩;intro k r j h1 a;rcases XM k l.length with h | h | h;rw[Z4 h]at h1;rw[Z4 ω]at a;exact(hr k r j h1 a).keepT hk;subst h;rw[ZN (Za _)]at h1;rw[ZN ω]at a;simp at h1;rw[b]at a;simp at a;subst h1 a;exact f.keepT hk;grind;rw[Zz,zh4];exact e
def zev{ops:Array Oper}{rest:List Oper}{o:Oper}{a:Act}{Q:Exit->Act->World->Prop}(I:o.guard=none)(s x:Operand)
    (J:o.op=.call { callee:=.builtin .append,args:=#[s,x],argTypes:=#[30,30] })    (M:a.eval s=v) (C:VecS w H v qs)  (N:a.eval x=.slice (some ⟨b,0,none⟩) 1 1)
        {t:Nat}  (G:θ w b #[g,(A,m,c),(D,t,n)] 62) (L:RatS w g (A,m,c) (D,t,n) q) (T:qs.length+1<=2000000) (z:H<=w.heap.size)
    (F:∀f e c' w',VecS w' H (.slice f e c') (qs++[q])->Below H w w'->e=qs.length+1->wpList prog ops Q rest (a.put o.dst (.slice f e c')) w'):wpList prog ops Q (o::rest) a w:=by
  obtain⟨S,hi,O,P,R⟩:=info_parts ze0;obtain⟨l,h1,E,y⟩:=C.row;have p:=λi=>zac G i
  refine wpList_append_own w I s x 30 J H 62 S _ 3 56 underlying30 hi O P R rfl δ v qs.length (rcells l) M y ⟨b,0,none⟩ 1 _ [.bool g,.slice A m c,.slice D t n] N rfl
    (by intro j u d
        match j,d with
        | 0,d=>exact(p 0).trans d
        | 1,d=>exact(p 1).trans d
        | 2,d=>exact(p 2).trans d
        | j+3,d=>simp at d)
    (by intro u d;simp at d;rcases d with rfl | rfl | rfl<;>rfl) (by unfold maxLen;omega) ω z ?_
  intro U w' K B _;have r:=VecS.append h1 E y L K B;obtain⟨f,e,c',rfl⟩:=r.slice;refine F f e c' w' r ((Zl _ _).grown B z (λk hk=>(C.lt hk).1)) (by rw[r.len];simp)
def zq5 (w:World) (qs:List Rat) (e:Ending) (w':World):Prop:=∃(A:OA) (n c:Nat),e=.returned (A,n,c)/\VecS w' w (A,n,c) qs/\Below w w w'
def zcd (w:World) (qs:List Rat) (b:Bool) (e:Ending) (w':World):Prop:=∃(A:OA) (n c:Nat),e=.returned (.tuple #[(A,n,c),b])/\VecS w' w (A,n,c) qs/\Below w w w'
attribute [local go_sem ↓] Go.wp_at_zero Go.wp_at_succ
def zvc(q:Rat):q.num<0↔q<0:=by have h:=Y5 (q:=q);grind
def zwb{p:Rat->Bool}(h:(qs.take k).any p=false)(b:qs[k]? = some q)(a:p q=false):(qs.take (k+1)).any p=false:=by rw[Xe,List.any_append,h,b];simp[a]
def ztV{p:Rat->Bool}(b:qs[k]? = some q)(a:p q=true):qs.any p=true:=ψ
namespace Vc
def below(A:OA)(n c:Nat)(qs:List Rat)(H:Nat)(w:World)(h:VecS w H (A,n,c) qs) :
  Calls prog 60 #[(A,n,c)] w λe w'=>e=.returned (.bool (qs.any λq=>decide (q<0)))/\Below w w w':=by
 have x:=h.len;have hf:=h.form;have r:=un x;have D:=un h;have J:n<=9223372036854775807:=by have G:=hf.2.2.1;unfold maxLen at G;omega
 have N:=un J;clear h hf x;go_enter func60,ntmps60;go_wp2
 go_loopw [7] (λi wr=>∃k:Nat,i=.int .i64 k/\k<=n/\Below w w wr/\(qs.take k).any (λq=>decide (q<0))=false)
  (λi _=>n-(intOf i).toNat)
 case atStart=>exact⟨0,rfl,Zb _,Zl _ _,rfl⟩
 obtain⟨k,rfl,hk,d,f⟩:=hrel;have l:=un d;have C:=un f;by_cases I:k<n
 ·have t:=un (D.o.below d);obtain⟨b,rfl,O,P⟩:=t.o.has ω;obtain⟨q,m⟩:∃q,qs[k]? = some q:=⟨qs[k]'(by rw[<-r.o];exact I),Ze _⟩
  obtain⟨g,y,L,E,z,M,F,S,T,k2,u⟩:=t.o.at_ m;have B:=un u;have s:=un m;have Q:(0:Int)<=(k:Int):=Zg _;have R:(k:Int)<(n:Int):=ω;clear d f u m;go_wp2_with fail
  refine(Rt.sign g y L E z M F q _ (B.o.alloc _)).mono ?_;rintro e U ⟨rfl,hb⟩;have o:=un (l.o.trans (((zae wr _).trans (hb.mono σ)).mono l.o.size));clear hb;by_cases j:q<0
  ·have K:=(zvc q).2 j;have a:=un (ztV (p:=λq=>decide (q<0)) s.o (ZG j));go_wp2;go_ret
   exact⟨by rw[a.o];rfl,o.o⟩
  have K:¬q.num<0:=λh=>j ((zvc q).1 h)
  have a:=un (zwb C.o s.o (ZJ j));go_wp2;go_roundw
  case rel=>exact⟨k+1,by go_num,ω,o.o,a.o⟩
  case measure=>simp[intOf];omega
 obtain rfl:k=n:=ω;have a:=un f;clear d f;go_wp2;go_ret;refine⟨?_,l.o⟩;have h:=a.o;rw[r.o,XL]at h;rw[h];rfl
end Vc
def rats (xs:List Int):List Rat:=xs.map fun(x:Int)=>(x:Rat)
def zvj{xs:List Int}{x:Int}(h:xs[k]? = some x):rats (xs.take (k+1))=rats (xs.take k)++[(x:Rat)]:=by unfold rats;rw[Xe,h];simp
namespace Vc
def of(b n c:Nat)(xs:List Int)(w:World)(y:n=xs.length)(a:∀j x,xs[j]? = some x->χ w b j (.int .i64 x))(hr:∀x∈xs, -9223372036854775808<=x/\x<=9223372036854775807)(u:n<=1000000)(hc:n<=c) :
  Calls prog 37 #[(b,n,c)] w (zq5 w (rats xs)):=by
 refine μ3 y a hr λq O J=>?_;have W:n<=9223372036854775807:=ω;have G:=un u;clear y a hr u;go_enter func37,ntmps37;go_wp2
 go_loopw [3,8] (λS i wr=>∃(k:Nat) (l:OA) (p c':Nat),i=.int .i64 k/\S=(l,p,c')/\k<=n/\VecS wr w (l,p,c') (rats (xs.take k))/\Below w w wr)
  (λ_ i _=>n-(intOf i).toNat)
 case atStart=>exact⟨0,none,0,0,rfl,rfl,Zb _,VecS.nil _ _,Zl _ _⟩
 obtain⟨k,l,p,c',rfl,rfl,hk,f,o⟩:=hrel;have L:=un f;have d:=un o;by_cases Q:k<n
 ·obtain⟨x,a⟩:∃x,xs[k]? = some x:=⟨xs[k]'(by rw[<-q.o];exact Q),Ze _⟩
  have h0:χ wr b k (.int .i64 x):=zab d.o (O.o k x a);have I:=un a;have r:=un (J.o x (Zj a));have U:(0:Int)<=(k:Int):=Zg _;have V:(k:Int)<(n:Int):=ω;clear o f a;go_wp2_with fail
  refine(Rt.int x r.o.1 r.o.2 _).mono ?_;rintro e T ⟨g,A,m,c2,D,md,cd,rfl,hq,hb⟩;refine μ4 (show w.heap.size<=T.heap.size from Zf d.o.size hb.size) (d.o.trans (hb.mono d.o.size)) (L.o.below hb) hq λs C M K=>?_;clear hb hq;go_wp2_with (at_builtin;go_loud (refine zev rfl _ _ rfl rfl (M.o.alloc _) rfl (zal _ _ _) (K.o.alloc _) (by unfold rats;rw[ZK,ZI];have:=G.o;omega) (by have:=s.o;simp;omega) ?_;intro B X P Y z t R;have N:=un z;have E:=un t;clear z t))
  subst R;exact⟨⟨k+1,B,_,P,σ,rfl,ω,by rw[zvj I.o];exact N.o,(C.o.alloc s.o _).trans E.o⟩,by simp[intOf];omega⟩
 obtain rfl:k=n:=ω;have F:=un f;clear o f;go_wp2;go_ret;refine⟨_,_,_,rfl,?_,d.o⟩;have h:=F.o;rw[q.o,XL]at h;exact h
end Vc
def fr (p d:Int):Rat:=if d=0 then (p:Rat)else Rat.divInt p d
def zAG{d:Int}(h:d=0):fr p d=(p:Rat):=by unfold fr;rw[if_pos h]
def zDB{d:Int}(h:d≠0):fr p d=Rat.divInt p d:=by unfold fr;rw[if_neg h]
namespace Lw
theorem zxr(p d:Int)(b:d=0)(g : -9223372036854775808<=p)(i:p<=9223372036854775807)(w:World):Calls prog 44 #[.agg #[.int .i64 p,.int .i64 d]] w (ze4 w (fr p d)):=by
 have k:=un (zAG (p:=p) b);have y:(d == 0)=true:=by rw[b];rfl
 have f:=un (And.intro g i);clear g i b;obtain⟨W,a⟩:∃W,((w.alloc (.cells #[.int .i64 p,.int .i64 d] 109)).alloc (.cells #[false,(),()] 62))=W:=⟨_,rfl⟩
 refine μ3 (show θ W w.heap.size #[.int .i64 p,.int .i64 d] 109by rw[<-a];exact zak (zam σ)) (show θ W (w.heap.size+1) #[false,(),()] 62by rw[<-a];exact zam σ) (show Below w w W by rw[<-a];exact(zae w _).alloc σ _) λm n c=>?_;obtain⟨z,_,A,_⟩:=bc2 m.o;go_enter func44,ntmps44;go_wp2_with fail
 clear a;with_reducible refine(Rt.int p f.o.1 f.o.2 _).mono ?_
 rintro e w1 ⟨g3,A3,m3,c3,D3,md3,cd3,rfl,hn,hb⟩;refine μ3 (zad hb n.o) (show RatS w1 g3 (A3,m3,c3) (D3,md3,cd3) (p:Rat)from hn) (c.o.trans ((hb).mono c.o.size)) λj l q=>?_;obtain⟨t,r,C,_,u,o,B,_,s,x,D,_⟩:=bf3 j.o;clear hn hb;go_wp2;refine Zi (v:=.agg #[g3,(A3,m3,c3),(D3,md3,cd3)]) (by simp[results,results44,go_sem,t,r,u,o,s,x]) rfl ?_;rw[k.o];exact⟨g3,A3,m3,c3,D3,md3,cd3,rfl,l.o.set3 j.o δ _ _ _,bsc (bsc (bsc q.o))⟩
end Lw
def mw (q:Rat):Nat:=max (wlen q.num.natAbs) (wlen q.den)
def zd2(q:Rat):wlen q.num.natAbs<=mw q:=Vt _ _
def zds(q:Rat):wlen q.den<=mw q:=Vu _ _
def zfO(x y:Int):wlen (x*y).natAbs<=wlen x.natAbs+wlen y.natAbs:=by rw[X4];simp[zdy]
def zvC(x y:Int):wlen (x+y).natAbs<=max (wlen x.natAbs) (wlen y.natAbs)+1:=Zf (zco (Int.natAbs_add_le x y)) (zgg _ _)
theorem zhX(x y:Int)(a:y≠0):mw (Rat.divInt x y)<=max (wlen x.natAbs) (wlen y.natAbs):=by
 have h1:wlen (Rat.divInt x y).num.natAbs<=wlen x.natAbs:=by
  rw[<-Rt.div_num x y a];split
  rw[Y7,XN];exact zco (Yf _ _);rw[XN];exact zco (Yf _ _)
 have b:wlen (Rat.divInt x y).den<=wlen y.natAbs:=by rw[<-Rt.div_den x y a];simp[zco,Yf]
 unfold mw;omega
def zrl(a b:Rat):((a.den*b.den:Nat):Int)≠0:=by have:=YV a.den_pos b.den_pos;omega
def ztR(a b:Rat):Rat.divInt (a.num*(b.den:Int)+b.num*(a.den:Int)) ((a.den*b.den:Nat):Int)=a+b:=by rw[Rat.add_def',Y8]
def zu5(a b:Rat):Rat.divInt (a.num*b.num) ((a.den*b.den:Nat):Int)=a*b:=by rw[Rat.mul_def',Y8]
def zpc(a b:Rat):wlen (a.num*(b.den:Int)+b.num*(a.den:Int)).natAbs<=mw a+mw b+1:=by have h1:=zvC (a.num*(b.den:Int)) (b.num*(a.den:Int));have c:=zfO a.num (b.den:Int);have d:=zfO b.num (a.den:Int);rw[XN]at c d;have:=zd2 a;have:=zd2 b;have:=zds a;have:=zds b;omega
def zic(a b:Rat):wlen (((a.den*b.den:Nat):Int)).natAbs<=mw a+mw b:=by rw[XN];have:=zdy a.den b.den;have:=zds a;have:=zds b;omega
def zpd(a b:Rat):wlen (a.num*b.num).natAbs<=mw a+mw b:=by have:=zfO a.num b.num;have:=zd2 a;have:=zd2 b;omega
theorem zrI(a b:Rat):mw (a+b)<=mw a+mw b+1:=by rw[<-ztR];have:=zhX (a.num*(b.den:Int)+b.num*(a.den:Int)) _ (zrl a b);have:=zpc a b;have:=zic a b;omega
def zdI(a b:Rat):mw (a*b)<=mw a+mw b:=by rw[<-zu5];have:=zhX (a.num*b.num) _ (zrl a b);have:=zpd a b;have:=zic a b;omega
def zhY(a:Rat):mw (-a)=mw a:=by unfold mw;rw[Va,Rat.neg_den,Y7]
def ziR (B:World) (s:Value) (w:World) (z:Int):Prop:=∃(nb:Nat) (g:Bool) (A:OA) (m c:Nat),s=.pointer (some ⟨nb,0,none⟩)/\Below B B w/\B.heap.size<=nb/\θ w nb #[g,(A,m,c)] 60/\IntS w g (A,m,c) z
def ziR.of{z:Int}(b:Below B B ((u.setCell ⟨a,0,none⟩ g).setCell ⟨a,1,none⟩ (A,m,c)))(d:B.heap.size<=a)(hk:θ u a #[v0,v1] 60)(hi:IntS u g (A,m,c) z) :
  ziR B (.pointer (some ⟨a,0,none⟩)) ((u.setCell ⟨a,0,none⟩ g).setCell ⟨a,1,none⟩ (A,m,c)) z :=
 ⟨a,g,A,m,c,rfl,b,d,zar _ (zar _ hk),hi.set2 hk δ _ _⟩
def zcD (B:World) (s:Value) (w:World) (q:Rat):Prop:=∃(nb:Nat) (g:Bool) (A:OA) (m c:Nat) (D:OA) (md cd:Nat),s=.pointer (some ⟨nb,0,none⟩)/\Below B B w/\B.heap.size<=nb/\θ w nb #[g,(A,m,c),(D,md,cd)] 62/\RatS w g (A,m,c) (D,md,cd) q
def zcD.of{d:Nat}{i:Value}(e:Below B B (((u.setCell ⟨a,0,none⟩ g).setCell ⟨a,1,none⟩ (A,m,c)).setCell ⟨a,2,none⟩ (D,d,b)))(f:B.heap.size<=a)(hk:θ u a #[v0,v1,i] 62)(hi:RatS u g (A,m,c) (D,d,b) q) :
  zcD B (.pointer (some ⟨a,0,none⟩)) (((u.setCell ⟨a,0,none⟩ g).setCell ⟨a,1,none⟩ (A,m,c)).setCell ⟨a,2,none⟩ (D,d,b)) q :=
 ⟨a,g,A,m,c,D,d,b,rfl,e,f,zar _ (zar _ (zar _ hk)),hi.set3 hk δ _ _ _⟩
def zbc{w1:World}{cs:Array Value}{t:TypeId}(a:Below w w w1)(h:θ w b cs t):θ w1 b cs t:=zad a h
def IntS.nat(h:IntS w g s (n:Int)):zas w s n:=h.abs
