/- Contracts and lemmas: Quot7 Quot10 Gcd1 Gcd2 Int1 Int2 Int3. Conditions: as each says. -/
import Derived.Test.YtbpjabgfcbjjmaaGreatQuot2Ye
import Derived.Deep.LoopGhost
set_option linter.all false
set_option maxHeartbeats 10000000
set_option maxRecDepth 100000
namespace Go.Proofs.YtbpjabgfcbjjmaaGreat
open Go.RowKit Am Tryz
attribute [local go_sem ↓] Go.wp_at_zero Go.wp_at_succ
namespace Qt
theorem zJH(s:Value)(xs:List Nat)(w:World)(a:SW w s xs):Calls prog 139 #[.agg #[s]] w λe w'=>e=.returned (xs.length:Int)/\Below w w w' :=
 (Nt.len s xs w a).mono λe w' h=>⟨h.1,by rw[h.2];simp[zae]⟩
theorem zBr(s:Value)(xs:List Nat)(k x:Nat)(K:Int)(a:K=(k:Int))(w:World)(b:SW w s xs)(c:wd xs k=x):Calls prog 170 #[.agg #[s],.int .i64 K] w λe w'=>e=.returned (.int .u64 (x:Int))/\Below w w w':=by subst a;exact(Nt.word s xs k (Zf _) w b).mono λe w' h=>⟨by rw[h.1,<-c];rfl,by rw[h.2];simp[zae]⟩
theorem zH4(x s:Nat)(c:x<18446744073709551616)(b:64-blen x=s)(w:World):Calls prog 187 #[.int .u64 x] w λe w'=>e=.returned (s:Int)/\Below w w w' :=
 (Word.lead x c w).mono λe w' h=>by grind[zap]
theorem zvm(W:World)(g n c k:Nat)(K:Int)(b:K=(k:Int))(h1:k<=c)(a:0<c) :
  (Instr.slice 56 (g,n,c) none (some (.int .i64 K)) none).run prog W=.ok (g,k,c) W:=by grind[Pr.run_upto]
theorem ztS{V a W b:World}{f i:Value}{xs:List Nat}{H n m:Nat}(o:Below V V a)(s:(wcells xs).length=m)(c:b.ownsRow H 206 1 i (n+2) (wcells (xs++[0,0])))(q:W.grownBy b f.ownBlock)
  (l:W.ownsRow H 206 1 f n (wcells xs)) (d:Below a a W) (t:n+([0,0]:List Nat).length=n+2) (e:V.heap.size<=a.heap.size) (j:V.heap.size<=H) :
  ∃g p,i=.slice (some ⟨g,0,none⟩) (n+2) p/\n+2<=p/\V.heap.size<=g/\b.ownsRow H 206 1 (.slice (some ⟨g,0,none⟩) (n+2) p) (n+2) (wcells (xs++[0,0]))/\Below V V b:=by
 obtain⟨g,p,rfl,r,hg⟩:=zxt c ω;refine⟨g,p,rfl,r,ω,c,?_⟩;exact(o.trans (d.mono e)).grown q (Zl e d.size) (λk hk=>Zl j (l.lt k hk).1)
theorem zDD(u2 u1 u0 v1 v0:Nat)(w:World)(a:u2<=v1)(h1:u1<18446744073709551616)(h0:u0<18446744073709551616)(c:9223372036854775808<=v1)(f:v1<18446744073709551616)(d:v0<18446744073709551616) :
  Calls prog 189 #[.int .u64 (u2:Int),.int .u64 (u1:Int),.int .u64 (u0:Int),.int .u64 (v1:Int),.int .u64 (v0:Int)] w λe w'=>∃q:Nat,e=.returned (.int .u64 (q:Int))/\GuessIs u2 u1 u0 v1 v0 q/\Below w w w' :=
 (guess u2 u1 u0 v1 v0 w a h1 h0 c f d).mono λe w' h=>by grind[zap]
theorem zr4(A B:OA)(m c m' c' a b:Nat)(w:World)(ha:zas w (A,m,c) a)(hb:zas w (B,m',c') b)(R:¬wlen b<=1)(hle:b<=a)(cw:wlen a+1<=LIM) :
    Calls prog 182 #[.agg #[(A,m,c)],.agg #[(B,m',c')]] w (zv4 w (a/b) (a%b) true):=by
  obtain⟨ys,hy,cn,cC,cy,hm⟩:=hb.words;subst hm;refine μ3 ha hb hy λHA bG HY=>?_;have eE:¬(ys.length:Int)<=1:=ω;have a6:=un cy;have dh:=un cC;clear ha hb hy cy cC;have W0:∃W,W=(((w.alloc (.cells #[(A,m,c)] 58)).alloc (.cells #[(B,ys.length,c')] 58)).alloc (.cells #[()] 58)).alloc (.cells #[()] 58):=⟨_,rfl⟩
  obtain⟨W,J⟩:=W0;have hz:W.heap.size=w.heap.size+1+1+1+1:=by rw[J];simp
  have i:χ W w 0 (A,m,c):=by rw[J];exact cell_al (cell_al (cell_al (zax rfl rfl)))
  have k1:χ W (w.heap.size+1) 0 (B,ys.length,c'):=by rw[J];exact cell_al (cell_al (zax σ rfl))
  have r2:θ W (w.heap.size+1+1) #[()] 58:=by rw[J];exact zak (zam σ)
  have r3:θ W (w.heap.size+1+1+1) #[()] 58:=by rw[J];exact zam σ
  have hB:Below w w W:=by rw[J];exact(((zae w _).alloc σ _).alloc (by simp;omega) _).alloc (by simp;omega) _
  refine μ7 (HA.o.below hB) (bG.o.below hB) (HY.o.below hB) r2 r3 hB hz λF NB I P Q C O=>?_;clear r2 r3 hB hz HA bG HY;go_enter func182,ntmps182;go_wp2_with fail
  rw[<-J];clear J;refine(Nt.len (B,ys.length,c') ys _ I.o).mono ?_;rintro e w' ⟨rfl,rfl⟩;have i:=cell_al (ob:=.cells #[(B,ys.length,c')] 58) i;have k1:=cell_al (ob:=.cells #[(B,ys.length,c')] 58) k1;go_wp2_with fail
  refine(Nt.cmp A B m c ys.length c' a b _ (F.o.alloc _) (NB.o.alloc _)).mono ?_;rintro e l ⟨rfl,hb2⟩;have E:Below W.heap.size W l:=((zae W _).trans (hb2.mono σ))
  have i:=zab hb2 i;have k1:=zab hb2 k1;refine μ7 (F.o.below E) (NB.o.below E) (I.o.below E) (zad E P.o) (zad E Q.o) (C.o.trans (E.mono (by have:=O.o;omega))) (show w.heap.size+4<=l.heap.size by have:=O.o;have:=E.size;omega) λF NB I P Q C O=>?_;clear hb2 E;have d1:¬ze9 (a:Int) (b:Int)<0:=by rcases ZI b a with h | h;rw[zea ω];omega;rw[zgN ω];omega
  obtain⟨cv,aF⟩:∃cv,cv=ze9 (a:Int) (b:Int):=⟨_,rfl⟩
  rw[<-aF]at d1 ⊢;clear aF;go_wp2_with fail
  obtain⟨top,aI⟩:∃top,wd ys (ys.length-1)=top:=⟨_,rfl⟩
  obtain⟨s,hs⟩:∃s,64-blen top=s:=⟨_,rfl⟩
  have bW:=un aI;have bT:=un hs;obtain⟨L,bg⟩:∃L,ys.length=L+1:=⟨ys.length-1,by have:=a6.o;omega⟩
  have X:=un (show(b*2^s<B64^(L+1)/\2^63*B64^L<=b*2^s)/\1<=L/\L+1<=wlen a by
    have h0:0<top:=by rw[<-aI];exact X9 (zoq cn ω)
    have h1:=zqo (L:=L) (top:=top) (s:=s) I.o.2 bg (by rw[<-aI,bg];rfl) h0 hs;rw[dh.o]at h1;have h2:=a6.o;have h3:=zco hle;exact⟨h1,ω,ω⟩)
  clear bg;have dw:=un (show top<18446744073709551616 by rw[<-aI];exact zdM I.o.2 _);have dX:2<=ys.length:=by have:=a6.o;omega
  have db:=un dX;have eF:ys.length<=9223372036854775807:=I.o.len_le;have ce:IntKind.i64.wrap ((ys.length:Int)-1)=((ys.length-1:Nat):Int):=by rw[Xz _ ω];omega
  refine μ4 ce (show wlen a<=LIM by omega) cw hle λda aO bN dd=>?_;clear aI hs ce cw hle R;have HS:=un (show ∀w',Below l l w'->((χ w' w 0 (A,m,c)/\χ w' (w.heap.size+1) 0 (B,ys.length,c'))/\Below l l w')from λw' h=>⟨⟨zab h i,zab h k1⟩,h⟩);go_cut[10] (λen wr=>en=.int .i64 (s:Int)/\Below l l wr)
  case first =>
    go_region_held3 (λw'=>((χ w' w 0 (A,m,c)/\χ w' (w.heap.size+1) 0 (B,ys.length,c'))/\Below l l w'))
      ((refine HS.o _ ?_;repeat(first | exact Zj _ _ | exact(by assumption:_/\Below _ _ _).2 | with_reducible refine bdrew ?_ | with_reducible refine al2 ?_ _ | with_reducible refine set2 ?_ ω | with_reducible refine zc1 ?_ (by assumption))))
      (first
        | (go_at_call 139;(with_reducible refine(zJH (B,ys.length,c') ys _ (I.o.below (by assumption:_/\Below _ _ _).2)).mono ?_);rintro e u1 ⟨rfl,R⟩;have ee:=R.size;(try simp at ee);have eG:l.heap.size<=u1.heap.size:=ω)
        | (go_at_call 170;(with_reducible refine(zBr (B,ys.length,c') ys (ys.length-1) top (IntKind.i64.wrap ((ys.length:Int)-1)) da.o _ (I.o.below (by assumption:_/\Below _ _ _).2) bW.o).mono ?_);rintro e u2 ⟨rfl,hb2⟩;have ef:=hb2.size;(try simp at ef);have eH:l.heap.size<=u2.heap.size:=ω)
        | (go_at_call 187;(with_reducible refine(zH4 top s dw.o bT.o _).mono ?_);rintro e u3 ⟨rfl,hb3⟩;have eg:=hb3.size;(try simp at eg);have eI:l.heap.size<=u3.heap.size:=ω))
    all_goals
      go_wp2;go_meet
      case rel=>exact⟨rfl,(by assumption:_/\Below l l _).2⟩
  obtain⟨rfl,g⟩:=hcut;rename World=>w3
  have i:=zab g i;have k1:=zab g k1;refine μ7 (F.o.below g) (NB.o.below g) (I.o.below g) (zad g P.o) (zad g Q.o) (C.o.trans (g.mono (by have:=O.o;omega))) (show w.heap.size+4<=w3.heap.size by have:=O.o;have:=g.size;omega) λF NB I P Q C O=>?_;clear g HS
  have cJ:s<64:=by
    rw[<-bT.o];have h0:0<top:=by rw[<-bW.o];exact X9 (zoq cn (by have:=db.o;omega))
    have:=zhl h0;omega
  have aw:=un cJ;have cx:wlen b<=LIM:=Zl (zco dd.o) aO.o;have dc:=un cx;clear cJ cx;go_wp2_with fail
  refine(Nt.shl B ys.length c' b s _ NB.o aw.o dc.o).mono ?_;rintro e T ⟨Av,mv,cv',rfl,hv4,hb4⟩;have cW:=cell_al (ob:=.cells #[(Av,mv,cv')] 58) (zab hb4 i);have bY:=un (hv4.alloc (.cells #[(Av,mv,cv')] 58));have E:Below w3 w3 (T.alloc (.cells #[(Av,mv,cv')] 58)):=hb4.trans (zae T _ |>.mono hb4.size);refine μ3 (F.o.below E) hb4.size E λb4 b3 HV=>?_;clear hv4 hb4 E k1;go_wp2_with fail
  refine(Nt.shl A m c a s _ b4.o aw.o aO.o).mono ?_;rintro e y ⟨As,ms,cs,rfl,hs5,hb5⟩;have aD:Below w3 w3 (y.alloc (.cells #[(As,ms,cs)] 58)):=(HV.o.trans (hb5.mono HV.o.size)).trans ((zae y _).mono (Zl HV.o.size hb5.size));have aY:Below (T.alloc (.cells #[(Av,mv,cv')] 58)).heap.size (T.alloc (.cells #[(Av,mv,cv')] 58)) (y.alloc (.cells #[(As,ms,cs)] 58)):=hb5.trans ((zae y _).mono hb5.size);have i:χ (y.alloc (.cells #[(As,ms,cs)] 58)) w 0 (A,m,c):=zab aY cW;have kv:θ (y.alloc (.cells #[(As,ms,cs)] 58)) T.heap.size #[(Av,mv,cv')] 58:=zad aY (zam rfl);have ks:χ (y.alloc (.cells #[(As,ms,cs)] 58)) y 0 (As,ms,cs):=zax rfl rfl;refine μ8 (F.o.below aD) (bY.o.below aY) (hs5.alloc (.cells #[(As,ms,cs)] 58)) (zad aD P.o) (zad aD Q.o) (C.o.trans (aD.mono (by have:=O.o;omega))) (show w.heap.size+4<=T.heap.size/\T.heap.size<y.heap.size/\(y.alloc (.cells #[(As,ms,cs)] 58)).heap.size=y.heap.size+1 by have:=O.o;have:=b3.o;have:=hb5.size;simp at this;simp;omega) kv λF NV NS P Q C dD KV=>?_;clear cW aD aY hb5 hs5 kv bY b4 HV NB I O b3;go_wp2_with fail
  generalize hq1:T.heap.size=gv at *
  generalize hq2:y.heap.size=gs at *
  generalize y.alloc (.cells #[(As,ms,cs)] 58)=V at *
  clear hq1 hq2;have bZ:=un (show ∀k,(Value.slice Av mv cv').ownBlock=some k->k<V.heap.size by obtain⟨zs,hz,_⟩:=NV.o;exact λk hk=>hz.block hk);obtain⟨d,cK,d0,d8,aE,d5⟩:=F.o.words;subst d5;obtain⟨xs,cL,d3,cB,bp,d7⟩:=NS.o.words;subst d7;have cS:xs.length<=d.length+1:=by rw[bp,aE];have h1:=zdy a (2^s);have h2:wlen (2^s)<=1:=zdl (XQ (Xm (show 0<2 by decide) (Nat.le_of_lt_succ aw.o)) δ);omega
  have cT:d.length<=xs.length:=by rw[bp,aE];exact zco (Nat.le_mul_of_pos_right a (Z0 δ))
  have cl:d.length<=LIM:=by rw[aE];exact aO.o
  refine μ8 cL cK aE cB cS cT cl (show xs.length<=LIM by have:=bN.o;omega) λSA SN aK dg dC bc a1 SL=>?_;have dY:d.length<=9223372036854775800:=by have:=zaP;omega
  have cZ:=un (show IntKind.i64.wrap ((d.length:Int)+1)=((d.length+1:Nat):Int)by rw[Xz _ ω];omega);clear cK d0 d8 aE cL d3 cB bp cS cT cl;have ej:χ V.drew w 0 (A,d.length,c):=i;have ei:χ (V.alloc (.cells #[.int .u64 0,.int .u64 0] 206)).drew w 0 (A,d.length,c):=cell_al i;have el:χ V.drew gs 0 (As,xs.length,cs):=ks;have ek:χ (V.alloc (.cells #[.int .u64 0,.int .u64 0] 206)).drew gs 0 (As,xs.length,cs):=cell_al ks;have bh:Below V V (V.alloc (.cells #[.int .u64 0,.int .u64 0] 206)).drew:=(zae V _).drew;go_cut[15] (λeo wr=>∃(H cu:Nat),eo=(H,d.length+1,cu)/\d.length+1<=cu/\V.heap.size<=H/\wr.ownsRow H 206 1 (H,d.length+1,cu) (d.length+1) (wcells ((xs++[0,0]).take (d.length+1)))/\Wds xs/\Below V V wr)
  case first =>
    go_region_law (first
      | (refine znT (by rfl) 173 func173 ξ (by rfl) _ _ (by rfl) _ (by rfl) (Nt.wordsF As xs.length cs xs _ (by first | exact SA.o.drew | exact (SA.o.alloc _).drew) SL.o) ?_;rintro e w6 ⟨A6,m6,c6,rfl,hO6,hW6,hb6⟩;refine ⟨_,rfl,?_⟩;
         refine μ5 hO6 hb6.size (show V.heap.size<=w6.heap.size from(by first | exact Zl σ hb6.size)) hW6 (show Below V V w6 by first | exact(zap V 1).trans (hb6.mono (by first | exact Za _ | (simp;done))) | exact bh.trans (hb6.mono bh.size)) λav bD c0 dy bC=>?_;
         have eh:=zab bC.o i;have eN:=cell_al (ob:=.cells #[.int .u64 0,.int .u64 0] 206) eh;try(have L6:∀j u,(wcells [0,0])[j]? = some u->w6.cell? ((⟨V,0,none⟩:Addr).add j)=some u:=λj u hu=>(Below.cell hb6 (Yb (V.alloc (.cells #[.int .u64 0,.int .u64 0] 206)) _ (zH5 V V.heap.size rfl j u hu))).trans (zH5 V V.heap.size rfl j u hu)))
      | ((refine zo4 (by rfl) _ _ (by rfl) (by first | exact av.o.alloc _ | exact av.o) (by rfl) (by rfl) (xs:=[0,0]) (by rfl) (by first | exact zH5 _ _ (by rfl) | exact L6) (by have:=SL.o;have:=zaP;simp;omega) (by first | exact bD.o | exact Zl bD.o σ) ?_;rintro v7 w7 ch cq;have hq:=ztS bC.o av.o.1 ch cq (by first | exact av.o.alloc _ | exact av.o) (by first | exact zae _ _ | exact Zj _ _) (by rfl) c0.o (by first | exact Za _ | simp);obtain⟨H7,p7,rfl,eC,cb,aB,aZ⟩:=hq;refine μ3 aB aZ cb λa7 bE c9=>?_;have eO:=zab aZ i;have dK:=un (SN.o.below aZ);have cD:d.length+1<=p7:=(by have:=bc.o;omega);have eD:=λW=>zvm W H7 (xs.length+2) p7 (d.length+1) (IntKind.i64.wrap ((d.length:Int)+1)) cZ.o cD ω;clear ch cq aB aZ cb))
      | (refine znT (by rfl) 139 func139 ξ (by rfl) _ _ (by rfl) _ (by rfl) (zJH (A,d.length,c) d _ dK.o) ?_;rintro e w8 ⟨rfl,hb8⟩;refine⟨_,rfl,?_⟩;have bF:=un hb8;clear hb8))
    all_goals
      go_wp2;go_meet
      case rel=>exact⟨H7,p7,rfl,cD,c9.o,zxv (zfF a7.o bF.o) (by have:=bc.o;omega),dy.o,bE.o.trans (bF.o.mono bE.o.size)⟩
  obtain⟨H,cu,rfl,d2,cd,hO,ci,g⟩:=hcut;rename World=>Y
  have KV:=un (zad g KV.o);have i:=zab g i;refine μ8 (SN.o.below g) (NV.o.below g) (zad g P.o) (zad g Q.o) (C.o.trans (g.mono C.o.size)) hO ci (show V.heap.size<=H/\V.heap.size<=Y.heap.size by exact⟨cd,g.size⟩) λF NV P Q C HO dB dt=>?_;clear g hO ci cd SA SN NS ej ei el ek ks bh;obtain⟨vs,bm,aF,bj,ec,d6⟩:=NV.o.words;subst d6;have cA:=zxq bm.2 aF bj X.o.1.1 X.o.1.2;refine μ3 bm cA bj λSV ak aT=>?_;have bk:=zA6 bc.o dC.o;rw[dg.o]at bk;have cR:Wds ((xs++[0,0]).take (d.length+1)):=(dB.o.append (by intro z hz;simp at hz;subst hz;decide)).take _;generalize (xs++[0,0]).take (d.length+1)=us at *
  have aQ:=un bk;have dA:=un cR;clear bm aF bj ec cA bk cR;have em:=zac KV.o 0;simp only[Xa,Z9]at em;go_wp2_with fail
  refine(Nt.len (Av,vs.length,cv') vs _ SV.o).mono ?_;rintro e w' ⟨rfl,rfl⟩;have i:=cell_al (ob:=.cells #[(Av,vs.length,cv')] 58) i;go_wp2_with fail
  refine(Nt.len (A,d.length,c) d _ (F.o.alloc _)).mono ?_;rintro e w' ⟨rfl,rfl⟩;have ed:vs.length<=d.length:=by have:=ak.o.1;have:=X.o.2.2;have:=aK.o;omega
  obtain⟨nq,d9⟩:∃nq,nq=d.length-vs.length+1:=⟨_,rfl⟩
  have au:=un (show nq+vs.length=d.length+1 by omega);have cf:wrap64 (wrap64 ((d.length:Int)-(vs.length:Int))+1)=(nq:Int):=by unfold wrap64;omega
  have de:=un cf;have ea:nq<=16*LIM:=by have:=a1.o;have:=zaP;omega
  have aP:=un ea;clear d9 cf ed;have cj:Below Y Y ((Y.alloc (.cells #[(Av,vs.length,cv')] 58)).alloc (.cells #[(A,d.length,c)] 58)):=(zae Y _).alloc σ _;generalize (Y.alloc (.cells #[(Av,vs.length,cv')] 58)).alloc (.cells #[(A,d.length,c)] 58)=Z at *
  have aa:=un cj;clear cj i;go_wp2_with (at_make;go_must (refine zdz rfl _ _ rfl nq _ rfl rfl de.o aP.o Z.heap.size rfl ?_))
  intro w1 ho
  have hD:DS w w1 H Z.heap.size gv d.length nq cu us (List.replicate nq 0) vs Av cv' :=
    ⟨zfF (zfF HO.o aa.o) ho.bel,ho.own,zad ho.bel (zad aa.o KV.o),(SV.o.below aa.o).below ho.bel,zad ho.bel (zad aa.o P.o),zad ho.bel (zad aa.o Q.o),(C.o.trans (aa.o.mono C.o.size)).trans (ho.bel.mono (Zl C.o.size aa.o.size))⟩
  have hF:DF w H Z.heap.size gv (Av,vs.length,cv'):=by have h1:=dt.o;have h2:=(HO.o.lt H rfl).2;have h3:=aa.o.size;have h4:=dD.o;exact⟨ω,ω,ω,λe=>by have:=bZ.o _ e;omega,λe=>by have:=bZ.o _ e;omega⟩
  have HD:=un hD;have U:=un hF;clear ho hD hF;generalize Z.heap.size=G at *
  have hI:LdInv (a*2^s) (nval vs) us (List.replicate nq 0) nq:=by refine⟨dA.o,Wds.replicate nq,by rw[zbK,aQ.o.1];simp,?_,λj _=>by rw[Zg,Z8];split<;>rfl⟩;have h1:=zw3 (us:=us) (vs:=vs) (a:=a) (s:=s) (n:=d.length) (L:=L) aQ.o.2 aQ.o.1 (by rw[aK.o];exact zfD a) aw.o (by have:=X.o.2.2;have:=aK.o;omega) (by rw[aT.o];exact X.o.1.2);rw[show nq=d.length-L by have:=au.o;have:=ak.o.1;omega];exact h1
  have o:=un hI;clear hI;go_wp2_with fail
  go_loopw [18] (λkv wr=>∃(k:Nat) (f qs:List Nat),kv=.int .i64 ((k:Int)-1)/\k<=nq/\f.length=d.length+1/\qs.length=nq/\LdInv (a*2^s) (nval vs) f qs k/\DS w wr H G gv d.length nq cu f qs vs Av cv')
    (λkv _=>(intOf kv+1).toNat)
  case atStart =>
    have h1:wrap64 ((nq:Int)-1)=(nq:Int)-1:=by have:=aP.o;have:=zaP;unfold wrap64;omega
    exact⟨nq,us,List.replicate nq 0,by rw[h1],Za _,aQ.o.2,ZO,o.o,HD.o⟩
  obtain⟨k,f,qs,rfl,hk,cP,cH,hI,hD⟩:=hrel;refine μ4 hI hD cP cH λo HD N M=>?_;clear hI hD cP cH;rcases k with _ | k
  · have co:=unshift (a:=a) (b:=b) (s:=s) (q:=nval qs) (r:=nval f) (by have:=o.o.eq;rw[aT.o]at this;exact this) (by have:=o.o.lt;rw[Yx,aT.o]at this;exact this);have bK:=un co
    have cI:wlen (nval f)<=LIM:=by have h1:=o.o.lt;rw[Yx,aT.o]at h1;have h2:wlen (nval f)<=L+1:=zaZ (Nat.lt_trans h1 X.o.1.1);have:=X.o.2.2;have:=aO.o;omega
    have ds:=un cI;clear co cI;go_wp2_with fail
    refine(Nt.of _ qs _ (HD.o.swQ M.o o.o.wq).reads (by rw[M.o];have:=au.o;have:=ak.o.1;have:=a1.o;omega)).mono ?_;rintro e l ⟨A2,m2,c2,rfl,hq2,hb2⟩;have aL:=un (HD.o.step hb2);have dm:=un hq2;clear hq2 hb2;go_wp2_with fail
    refine(Nt.of _ f _ (aL.o.swU N.o o.o.wu).reads (by rw[N.o,aK.o];exact bN.o)).mono ?_;rintro e w3 ⟨A3,m3,c3,rfl,hr3,hb3⟩;refine μ3 (aL.o.step hb3) (dm.o.below hb3) hr3 λar dn dq=>?_;clear hr3 hb3;go_wp2_with fail
    refine(Nt.shr A3 m3 c3 (nval f) s _ dq.o aw.o ds.o).mono ?_;rintro e T ⟨A4,m4,c4,rfl,aH,hb4⟩;refine μ3 (ar.o.step hb4) (dn.o.below hb4) aH λD dp dr=>?_;clear aH hb4;have g3:=zac D.o.r2 0;have g4:=zag D.o.r2 0;have g5:=zac D.o.r3 0;have g6:=zag D.o.r3 0;simp only[Xa,Z9]at g3 g5;go_wp2;refine Zh (v:=.tuple #[.agg #[(A2,m2,c2)],.agg #[(A4,m4,c4)],true]) (by simp[results,results182,go_sem,g3,g5]) rfl ?_;have cF:=dp.o;have aH:=dr.o;rw[bK.o.1]at cF;rw[bK.o.2]at aH;exact⟨_,_,_,_,_,_,rfl,zas.setBox (zas.setBox cF (Box.of D.o.r2)) (Box.set (Box.of D.o.r3)),zas.setBox (zas.setBox aH (Box.of D.o.r2)) (Box.set (Box.of D.o.r3)),bsc (bsc D.o.bel)⟩
  have J:=zvB o.o.wu SV.o.2 o.o.lt (by have:=N.o;have:=au.o;omega);have aV:=un J;have HK:=un (show k+vs.length<=d.length by have:=au.o;omega);have e1:((k+1:Nat):Int)-1=(k:Int):=ω;simp only[e1];clear J e1;go_wp2_with fail
  have bo:2<=vs.length:=by have:=ak.o.1;have:=X.o.2.1;omega
  have dZ:=dY;obtain⟨x,bn⟩:∃t,t=k+vs.length:=⟨_,rfl⟩
  obtain⟨t1,cN⟩:∃t,t=k+vs.length-1:=⟨_,rfl⟩
  obtain⟨t0,cM⟩:∃t,t=k+vs.length-2:=⟨_,rfl⟩
  obtain⟨S,a0⟩:∃t,t=vs.length-1:=⟨_,rfl⟩
  obtain⟨m0,cz⟩:∃t,t=vs.length-2:=⟨_,rfl⟩
  have d4:=HK.o;have q2:x<d.length+1:=ω;have q1:t1<d.length+1:=ω;have q0:t0<d.length+1:=ω;have qk:k<nq:=by have:=au.o;omega
  refine μ5 (show IntKind.i64.wrap ((k:Int)+(vs.length:Int))=(x:Int)by rw[Xz _ ω];omega) (show IntKind.i64.wrap ((x:Int)-1)=(t1:Int)by rw[Xz _ ω];omega) (show IntKind.i64.wrap ((x:Int)-2)=(t0:Int)by rw[Xz _ ω];omega) (show IntKind.i64.wrap ((vs.length:Int)-1)=(S:Int)by rw[Xz _ ω];omega) (show IntKind.i64.wrap ((vs.length:Int)-2)=(m0:Int)by rw[Xz _ ω];omega) λW2 W1 W0 X1 X0=>?_;have cp:wd f x<=wd vs S:=by rw[bn,a0];exact aV.o.top o.o.wu SV.o.2 bo
  have ct:9223372036854775808<=wd vs S:=by rw[a0,ak.o.1];exact ak.o.2
  refine μ9 cp ct bn cN cM a0 cz bo qk λc8 bL bU dv du bO df bX K=>?_;clear cp ct;have D0:DS w wr.drew H G gv d.length nq cu f qs vs Av cv':=HD.o.step (zap wr 1);have bH:=un D0;have dT:=D0.cellU N.o q2;have dS:=D0.cellU N.o q1;have dR:=D0.cellU N.o q0;have cV:=D0.cellV;have i2:(x:Int)<(d.length:Int)+1:=ω;have i1:(t1:Int)<(d.length:Int)+1:=ω;have i0:(t0:Int)<(d.length:Int)+1:=ω;have ik:(k:Int)<(nq:Int):=ω;refine μ3 q2 q1 q0 λdJ et es=>?_;clear D0 bn cN cM a0 cz bo d4 q2 q1 q0 qk dZ;have eS:=W2.o;have eR:=W1.o;have eQ:=W0.o;have eW:=X1.o;have eV:=X0.o;refine μ4 (zdM o.o.wu t1) (zdM o.o.wu t0) (zdM SV.o.2 S) (zdM SV.o.2 m0) λdG dF dI dH=>?_;go_cut[] (λer=>∃(q:Nat),GuessIs (wd f x) (wd f t1) (wd f t0) (wd vs S) (wd vs m0) q/\DS w er H G gv d.length nq cu f (qs.set k q) vs Av cv')
  case first =>
    have eA:H<G:=U.o.hg;have eB:gv<G:=Nat.lt_trans U.o.gh U.o.hg
    go_region_held3 (λw'=>χ w' H x (.int .u64 ((wd f x:Nat):Int))/\χ w' H t1 (.int .u64 ((wd f t1:Nat):Int))/\χ w' H t0 (.int .u64 ((wd f t0:Nat):Int))/\χ w' gv 0 (Av,vs.length,cv'))
      (((try go_split_ands);(try simp only[Xp]);(repeat' apply And.intro)<;>(first | assumption | exact zab R (by assumption) | exact zab hb2 (by assumption) | exact zab hb3 (by assumption) | exact cell_set ω (by assumption))))
      (first
        | (go_at_call 170;(with_reducible refine(zBr (Av,vs.length,cv') vs S (wd vs S) (S:Int) rfl _ bH.o.sv rfl).mono ?_);rintro e y1 ⟨rfl,R⟩;have bI:=un (bH.o.step R))
        | (go_at_call 170;(with_reducible refine(zBr (Av,vs.length,cv') vs m0 (wd vs m0) (m0:Int) rfl _ bI.o.sv rfl).mono ?_);rintro e y2 ⟨rfl,hb2⟩;have aL:=un (bI.o.step hb2))
        | (go_at_call 189;(with_reducible refine(zDD (wd f x) (wd f t1) (wd f t0) (wd vs S) (wd vs m0) _ c8.o dG.o dF.o bL.o dI.o dH.o).mono ?_);rintro e y3 ⟨q,rfl,al,hb3⟩;have ar:=un (aL.o.step hb3);have aN:=un al;have cQ:=ar.o.cellQ M.o K.o;have fQ:=ar.o.q.frozenAt k;clear al))
    all_goals
      go_wp2;go_meet
      case rel=>exact⟨q,aN.o,ar.o.setQ U.o k q⟩
  obtain⟨q,al,ca⟩:=hcut;rename World=>y4
  have cr:GuessIs (wd f (k+vs.length)) (wd f (k+vs.length-1)) (wd f (k+vs.length-2)) (wd vs (vs.length-1)) (wd vs (vs.length-2)) q:=by have:=al;rw[bU.o,dv.o,du.o,bO.o,df.o]at this;exact this
  have aN:=un cr;have cG:q<18446744073709551616:=al.lt;have bQ:=un cG;have D4:DS w y4.drew H G gv d.length nq cu f (qs.set k q) vs Av cv':=ca.step (zap y4 1);have D:=un D4
  have dP:χ y4.drew G k (.int .u64 (q:Int)):=by
    have h:=D4.cellQ (by rw[ZQ];exact M.o) K.o;have e:wd (qs.set k q) k=q:=by unfold wd;rw[zcU _ _ _ _ (by rw[M.o];exact K.o),if_pos rfl]
    rw[e]at h;exact h
  have dU:=D4.cellV;refine μ3 (D4.outC N.o) (show k+vs.length+1<=cu by have:=HK.o;omega) (show IntKind.i64.wrap ((x:Int)+1)=((k+vs.length+1:Nat):Int)by have:=dJ.o;have:=bU.o;rw[Xz _ ω];omega) λdj ap b1=>?_;have aG:=λW=>zvl W H (d.length+1) cu k (k+vs.length+1) (IntKind.i64.wrap ((x:Int)+1)) b1.o ω ap.o (by have:=ap.o;omega)
  rw[show k+vs.length+1-k=vs.length+1 by omega]at aG;refine μ4 (show k+vs.length<d.length+1 by have:=HK.o;omega) (show vs.length+1<=cu-k by have:=ap.o;omega) (show d.length+1<=2*LIM by have:=a1.o;have:=zaP;omega) U.o.vh λa9 dx bV b0=>?_;clear al cr ca D4 cG dT dS dR cV d2;go_wp2_with fail
  go_region_with (go_at_call 190;(with_reducible refine(take y4.drew y4.drew H (d.length+1) cu k (cu-k) q f vs Av cv' dj.o D.o.sv b0.o o.o.wu bQ.o a9.o dx.o bV.o).mono ?_);rintro e y5 ⟨bb,us2,rfl,hbb,hO5,hw5,hs5,he5⟩;refine μ4 hO5 hw5 hs5 he5 λdi aU aR a2=>?_;clear hO5 hw5 hs5 he5)
  all_goals
    have D5:=D.o.ofOut U.o di.o;refine μ5 D5 (show us2.length=d.length+1 by rw[aR.o.1];exact N.o) (show k<qs.length by rw[M.o];exact K.o) (show k<=f.length by rw[N.o];have:=a9.o;omega) (show 9223372036854775808<=wd vs (vs.length-1)by rw[<-bO.o];exact bL.o) λaM ba a4 a5 bM=>?_;clear D5 dP dU aG;rcases(show bb=0\/bb=1 by omega)with rfl | rfl
    · have cm:((0:Nat) == 1)=false:=rfl;simp only[cm];clear cm;have hR:=zqw (nq:=nq) o.o aV.o SV.o.2 bX.o a4.o a5.o bM.o aN.o aR.o aU.o a2.o;have HR:=un hR;clear hR;go_wp2_with fail
      have h1:wrap64 ((k:Int)-1)=(k:Int)-1:=by have:=K.o;have:=aP.o;have:=zaP;unfold wrap64;omega
      exact⟨⟨k,us2,qs.set k q,by rw[h1],by have:=K.o;omega,ba.o,by rw[ZQ];exact M.o,HR.o,aM.o⟩,by rw[h1];simp[intOf]⟩
    have R:((1:Nat) == 1)=true:=rfl;simp only[R];clear R;have cE:0<q:=by rcases XY q with h | h;subst h;have:=zo6 aV.o aU.o aR.o a5.o a2.o (Za 1) σ;omega;exact h
    have dl:=un (zdN cE bQ.o)
    have dQ:χ y5 G k (.int .u64 (q:Int)):=by
      have h:=aM.o.cellQ (by rw[ZQ];exact M.o) K.o;have e:wd (qs.set k q) k=q:=by unfold wd;rw[zcU _ _ _ _ a4.o,if_pos rfl]
      rw[e]at h;exact h
    have dV:=aM.o.q.frozenAt k;clear cE;go_wp2_with fail
    rw[dl.o];have D6:=aM.o.setQ U.o k (q-1);have c1:=un D6;clear D6 dQ dV;generalize y5.setCell ⟨G,k,none⟩ (.int .u64 ((q-1:Nat):Int))=y6 at *
    have D7:DS w y6.drew H G gv d.length nq cu us2 ((qs.set k q).set k (q-1)) vs Av cv':=c1.o.step (zap y6 1);have bJ:=un D7;have ev:=D7.cellV;have dk:=un (D7.outC ba.o);have aG:=λW=>zvl W H (d.length+1) cu k (k+vs.length+1) (IntKind.i64.wrap ((x:Int)+1)) b1.o ω ap.o (by have:=ap.o;omega)
    rw[show k+vs.length+1-k=vs.length+1 by omega]at aG;clear D7;go_region_with (go_at_call 191;(with_reducible refine(back y6.drew y6.drew H (d.length+1) cu k (cu-k) us2 vs Av cv' dk.o bJ.o.sv b0.o aU.o a9.o bV.o).mono ?_);rintro e y7 ⟨us3,rfl,aB,hw8,hs8,cc,he8⟩;refine μ4 aB hw8 hs8 he8 λa7 dz bS c7=>?_;clear aB hw8 hs8 he8)
    all_goals
      have D8:=bJ.o.ofOut U.o a7.o;have c5:=un D8;have hR:=zsu (c:=cc) o.o aV.o SV.o.2 bX.o a4.o a5.o bM.o aN.o aR.o aU.o a2.o bS.o dz.o c7.o;have HR:=un hR;clear hR D8 aG;go_wp2_with fail
      have h1:wrap64 ((k:Int)-1)=(k:Int)-1:=by have:=K.o;have:=aP.o;have:=zaP;unfold wrap64;omega
      exact⟨⟨k,us3,(qs.set k q).set k (q-1),by rw[h1],by have:=K.o;omega,by rw[bS.o.1];exact ba.o,by rw[ZQ,ZQ];exact M.o,HR.o.1,c5.o⟩,by rw[h1];simp[intOf]⟩
end Qt
end Go.Proofs.YtbpjabgfcbjjmaaGreat
namespace Go.Proofs.YtbpjabgfcbjjmaaGreat
open Go.RowKit Am Tryz
attribute [local go_sem ↓] Go.wp_at_zero Go.wp_at_succ
variable {b c c' m m' x y:Nat}{A B:OA}{v:Value}{w w' wr:World}
namespace Qt
theorem zyj(A B:OA)(m c m' c' a b:Nat)(w:World)(d:zas w (A,m,c) a)(e:zas w (B,m',c') b)(f:0<b)(g:wlen a+1<=LIM) :
  Calls prog 182 #[.agg #[(A,m,c)],.agg #[(B,m',c')]] w (zv4 w (a/b) (a%b) true):=by grind[zr5,Nat.lt_or_ge,zpY,zr4]
theorem div(A B:OA)(m c m' c' a b:Nat)(w:World)(i:zas w (A,m,c) a)(d:zas w (B,m',c') b)(j:0<b)(k:wlen a+1<=LIM) :
  Calls prog 167 #[.agg #[(A,m,c)],.agg #[(B,m',c')]] w (zjL w (a/b) true):=by
 refine μ4 i d k j λn o s q=>?_;clear i d k j;go_enter func167,ntmps167;go_wp2_with fail
 refine(zyj A B m c m' c' a b _ (((n.o.alloc _).alloc _).alloc _) (((o.o.alloc _).alloc _).alloc _) q.o s.o).mono ?_;rintro e l ⟨A1,m1,c1,A2,m2,c2,rfl,hq,hr,hb2⟩;have y:=un ((hb2.block (w.heap.size+1+1) σ).trans (zam (cs:=#[.slice none 0 0]) (t:=58) σ));have x:=hb2.size;simp at x;have u:=un hq;have r:=un hb2;clear hq hr hb2;have f:=un (show θ ((l.alloc (.cells #[(A1,m1,c1)] 58)).alloc (.cells #[(A2,m2,c2)] 58)) (w.heap.size+1+1) #[()] 58from zak (zak y.o));have g:=zac f.o 0;have z:=zag f.o 0;simp only[Xa,Z9]at g;go_wp2;refine Zh (v:=.tuple #[.agg #[(A1,m1,c1)],true]) (by simp[results,results167,go_sem,g]) rfl ?_;have d:Below w w ((l.alloc (.cells #[(A1,m1,c1)] 58)).alloc (.cells #[(A2,m2,c2)] 58)):=(((((zae w _).alloc σ _).alloc (by simp;omega) _).trans (r.o.mono (by simp;omega))).alloc ω _).alloc (by simp;omega) _;exact⟨_,_,_,rfl,zas.setBox ((u.o.alloc _).alloc _) (Box.of f.o),bsc d⟩
theorem mod(A B:OA)(m c m' c' a b:Nat)(w:World)(i:zas w (A,m,c) a)(d:zas w (B,m',c') b)(j:0<b)(k:wlen a+1<=LIM) :
  Calls prog 181 #[.agg #[(A,m,c)],.agg #[(B,m',c')]] w (zjL w (a%b) true):=by
 refine μ4 i d k j λn o s q=>?_;clear i d k j;go_enter func181,ntmps181;go_wp2_with fail
 refine(zyj A B m c m' c' a b _ (((n.o.alloc _).alloc _).alloc _) (((o.o.alloc _).alloc _).alloc _) q.o s.o).mono ?_;rintro e l ⟨A1,m1,c1,A2,m2,c2,rfl,hq,hr,hb2⟩;have y:=un ((hb2.block (w.heap.size+1+1) σ).trans (zam (cs:=#[.slice none 0 0]) (t:=58) σ));have x:=hb2.size;simp at x;have u:=un hr;have r:=un hb2;clear hq hr hb2;have f:=un (show θ ((l.alloc (.cells #[(A1,m1,c1)] 58)).alloc (.cells #[(A2,m2,c2)] 58)) (w.heap.size+1+1) #[()] 58from zak (zak y.o));have g:=zac f.o 0;have z:=zag f.o 0;simp only[Xa,Z9]at g;go_wp2;refine Zh (v:=.tuple #[.agg #[(A2,m2,c2)],true]) (by simp[results,results181,go_sem,g]) rfl ?_;have d:Below w w ((l.alloc (.cells #[(A1,m1,c1)] 58)).alloc (.cells #[(A2,m2,c2)] 58)):=(((((zae w _).alloc σ _).alloc (by simp;omega) _).trans (r.o.mono (by simp;omega))).alloc ω _).alloc (by simp;omega) _;exact⟨_,_,_,rfl,zas.setBox ((u.o.alloc _).alloc _) (Box.of f.o),bsc d⟩
end Qt
namespace Gc
structure GS (w wr:World) (A:OA) (m c:Nat) (B:OA) (m' c' x y:Nat):Prop where
  ka:θ wr w.heap.size #[(A,m,c)] 58
  kb:θ wr (w.heap.size+1) #[(B,m',c')] 58
  kr:θ wr (w.heap.size+1+1) #[()] 58
  x:zas wr (A,m,c) x
  y:zas wr (B,m',c') y
  bel:Below w w wr
theorem GS.step(h:GS w wr A m c B m' c' x y)(a:Below wr wr w'):GS w w' A m c B m' c' x y :=
 ⟨zad a h.ka,zad a h.kb,zad a h.kr,h.x.below a,h.y.below a,h.bel.trans (a.mono h.bel.size)⟩
theorem GS.turn(h:GS w wr A m c B m' c' x y){C:OA}{a z:Nat}(f:zas wr (C,b,a) z) :
  GS w ((wr.setCell ⟨w,0,none⟩ (B,m',c')).setCell ⟨w.heap.size+1,0,none⟩ (C,b,a)) B m' c' C b a y z:=by
 have d:=Box.of h.ka;have e:Box (wr.setCell ⟨w,0,none⟩ (B,m',c')) (w.heap.size+1):=Box.set (Box.of h.kb);have k2:=(ZE wr ⟨w,0,none⟩ (B,m',c') (w.heap.size+1) σ).trans h.kb;refine⟨?_,one_setCell k2,?_,zas.setBox (zas.setBox h.y d) e,zas.setBox (zas.setBox f d) e,bsc (Xf h.bel (p:=⟨w,0,none⟩) (Za _) _)⟩;exact(ZE _ ⟨w.heap.size+1,0,none⟩ _ w.heap.size σ).trans (one_setCell h.ka);exact(ZE _ ⟨w.heap.size+1,0,none⟩ _ (w.heap.size+1+1) σ).trans ((ZE _ ⟨w,0,none⟩ _ (w.heap.size+1+1) (by simp;omega)).trans h.kr)
theorem of(A B:OA)(m c m' c' a b:Nat)(w:World)(D:zas w (A,m,c) a)(E:zas w (B,m',c') b)(G:wlen a+1<=LIM)(H:wlen b+1<=LIM) :
  Calls prog 166 #[.agg #[(A,m,c)],.agg #[(B,m',c')]] w (zc0 w (Nat.gcd a b)):=by
 refine μ4 D E G H λQ R S T=>?_;clear D E G H;go_enter func166,ntmps166;go_wp2_with fail
 have X:=un (show GS w (((w.alloc (.cells #[(A,m,c)] 58)).alloc (.cells #[(B,m',c')] 58)).alloc (.cells #[()] 58)) A m c B m' c' a b from
  ⟨zak (zak (zam rfl)),zak (zam σ),zam σ,((Q.o.alloc _).alloc _).alloc _,((R.o.alloc _).alloc _).alloc _,((zae w _).alloc σ _).alloc (by simp;omega) _⟩)
 generalize ((w.alloc (.cells #[(A,m,c)] 58)).alloc (.cells #[(B,m',c')] 58)).alloc (.cells #[()] 58)=w1 at *
 go_loopg [] b (λZ wr=>∃(k:OA) (q o:Nat) (f:OA) (i g x y:Nat),GS w wr k q o f i g x y/\Nat.gcd x y=Nat.gcd a b/\wlen x+1<=LIM/\wlen y+1<=LIM/\y<=Z)
 case atStart=>exact⟨A,m,c,B,m',c',a,b,X.o,rfl,S.o,T.o,Za _⟩
 obtain⟨k,q,o,f,i,g,x,y,t,F,I,J,L⟩:=hrel;refine μ5 t F I J L λr z U C Y=>?_;have kb:=zac t.kb 0;simp only[Xa,Z9]at kb;clear t F I J L;rcases XY y with hy0 | hy0
 ·have M:isZ y=true:=by rw[hy0];rfl
  have n:=un hy0;have d:=un (r.o.step (zae wr (.cells #[(f,i,g)] 58)));have s:=zac d.o.ka 0;have P:=zac d.o.kr 0;have af:=zag d.o.kr 0;simp only[Xa,Z9]at s P;clear hy0;go_wp2_with (go_at_call 129;(with_reducible refine(Nt.zero (f,i,g) y _ r.o.y).mono ?_);rintro e w2 ⟨rfl,rfl⟩)
  refine Zh (v:=.agg #[(k,q,o)]) (by simp[results,results166,go_sem,P]) rfl ?_;have K:=d.o.x;have hg:=z.o;rw[n.o,Nat.gcd_zero_right]at hg;rw[hg]at K;exact⟨_,_,_,rfl,zas.setBox K (Box.of d.o.kr),bsc d.o.bel⟩
 have M:=zk4 hy0;have n:=un hy0;have d:=un (r.o.step (zae wr (.cells #[(f,i,g)] 58)));have s:=zac d.o.ka 0;have N:=zac d.o.kb 0;simp only[Xa,Z9]at s N;clear hy0
 go_wp2_with (first
  | (go_at_call 129;(with_reducible refine(Nt.zero (f,i,g) y _ r.o.y).mono ?_);rintro e w2 ⟨rfl,rfl⟩)
  | (go_at_call 181;(with_reducible refine(Qt.mod k f q o i g x y _ d.o.x d.o.y n.o U.o).mono ?_);rintro e j ⟨A3,m3,c3,rfl,hr,hb3⟩;have u:=un (d.o.step hb3);have V:=un hr;clear hr hb3))
 have l:Hid (GS w (j.alloc (.cells #[(A3,m3,c3)] 58)).drew k q o f i g x y):=un (u.o.step ((zae j _).drew));have W:Hid (zas (j.alloc (.cells #[(A3,m3,c3)] 58)).drew (A3,m3,c3) (x%y)):=un ((V.o.alloc _).drew);have ai:χ (j.alloc (.cells #[(A3,m3,c3)] 58)).drew j 0 (A3,m3,c3):=zax rfl rfl;have ad:w.heap.size+3<=j.heap.size:=by have:=(ZS.1 u.o.kr).1;omega
 have aa:=zac l.o.ka 0;have ag:=zag l.o.ka 0;have O:=zac l.o.kb 0;have ab:=zag l.o.kb 0;simp only[Xa,Z9]at aa O;have aj:χ ((j.alloc (.cells #[(A3,m3,c3)] 58)).setCell ⟨w,0,none⟩ (f,i,g)).drew j 0 (A3,m3,c3):=cell_set ω (zax rfl rfl);have ae:χ (j.alloc (.cells #[(A3,m3,c3)] 58)) (w.heap.size+1) 0 (f,i,g):=O;have ah:(j.alloc (.cells #[(A3,m3,c3)] 58)).frozen? ⟨w.heap.size+1,0,none⟩=false:=ab;clear s N kb M;go_region
 all_goals
  go_wp2;go_roundg (x%y)
  case measure=>have:=ZW x n.o;have:=Y.o;omega
  refine⟨f,i,g,A3,m3,c3,y,x%y,l.o.turn W.o,?_,C.o,?_,Za _⟩;rw[<-z.o,YY y,<-Nat.gcd_rec,YY];have:=zco (Xi (ZW x n.o));have:=C.o;omega
end Gc
namespace Gc
structure RS (w wr:World) (A:OA) (m c:Nat) (B:OA) (m' c' x y:Nat):Prop where
  ka:θ wr w.heap.size #[(A,m,c)] 58
  kb:θ wr (w.heap.size+1) #[(B,m',c')] 58
  k2:θ wr (w.heap.size+1+1) #[()] 58
  k3:θ wr (w.heap.size+1+1+1) #[()] 58
  x:zas wr (A,m,c) x
  y:zas wr (B,m',c') y
  bel:Below w w wr
theorem RS.step(h:RS w wr A m c B m' c' x y)(a:Below wr wr w'):RS w w' A m c B m' c' x y :=
 ⟨zad a h.ka,zad a h.kb,zad a h.k2,zad a h.k3,h.x.below a,h.y.below a,h.bel.trans (a.mono h.bel.size)⟩
theorem zx8(h:θ w b #[v] 58):χ w b 0 v:=zac h 0
theorem reduce(A B:OA)(m c m' c' a b:Nat)(w:World)(C:zas w (A,m,c) a)(D:zas w (B,m',c') b)(E:0<b)(F:wlen a+1<=LIM)(G:wlen b+1<=LIM) :
  Calls prog 133 #[.agg #[(A,m,c)],.agg #[(B,m',c')]] w (zpo w (a/Nat.gcd a b) (b/Nat.gcd a b)):=by
 refine μ5 C D F G (Nat.gcd_pos_of_pos_right a E) λJ K o q j=>?_;clear C D F G E;go_enter func133,ntmps133;go_wp2_with fail
 have k:=un (show RS w ((((w.alloc (.cells #[(A,m,c)] 58)).alloc (.cells #[(B,m',c')] 58)).alloc (.cells #[()] 58)).alloc (.cells #[()] 58)) A m c B m' c' a b from
  ⟨zak (zak (zak (zam rfl))),zak (zak (zam σ)),zak (zam σ),zam σ,(((J.o.alloc _).alloc _).alloc _).alloc _,(((K.o.alloc _).alloc _).alloc _).alloc _,(((zae w _).alloc σ _).alloc (by simp;omega) _).alloc (by simp;omega) _⟩)
 generalize (((w.alloc (.cells #[(A,m,c)] 58)).alloc (.cells #[(B,m',c')] 58)).alloc (.cells #[()] 58)).alloc (.cells #[()] 58)=W0 at *
 refine(of A B m c m' c' a b _ k.o.x k.o.y o.o q.o).mono ?_;rintro e w1 ⟨G1,mg,cg,rfl,hg1,hb1⟩;have M:=un ((k.o.step hb1).step (zae w1 (.cells #[(G1,mg,cg)] 58)));have r:=un (hg1.alloc (.cells #[(G1,mg,cg)] 58));have n:θ (w1.alloc (.cells #[(G1,mg,cg)] 58)) w1.heap.size #[(G1,mg,cg)] 58:=zam rfl;have Q:=un n;have aa:=zx8 n;clear hg1 hb1 n;have H:=zk4 j.o;go_wp2_with fail
 generalize w1.alloc (.cells #[(G1,mg,cg)] 58)=W1 at *
 generalize w1.heap.size=gb at *
 refine(Nt.zero (G1,mg,cg) (Nat.gcd a b) _ r.o).mono ?_;rintro e w' ⟨rfl,rfl⟩;rw[H];refine μ3 (M.o.step (zae W1 (.cells #[(G1,mg,cg)] 58))) (r.o.alloc (.cells #[(G1,mg,cg)] 58)) (zad (zae W1 (.cells #[(G1,mg,cg)] 58)) Q.o) λl s t=>?_;have Y:=zx8 t.o;have W:=zx8 l.o.ka;clear aa H;generalize W1.alloc (.cells #[(G1,mg,cg)] 58)=W2 at *
 go_wp2_with fail
 refine(Qt.div A G1 m c mg cg a (Nat.gcd a b) _ l.o.x s.o j.o o.o).mono ?_;rintro e g ⟨X3,m3,c3,rfl,hx3,hb3⟩;refine μ4 ((l.o.step hb3).step (zae g (.cells #[(X3,m3,c3)] 58))) ((s.o.below hb3).alloc (.cells #[(X3,m3,c3)] 58)) (hx3.alloc (.cells #[(X3,m3,c3)] 58)) (zad (zae g (.cells #[(X3,m3,c3)] 58)) (zad hb3 t.o)) λi L N R=>?_;have I:θ (g.alloc (.cells #[(X3,m3,c3)] 58)) g.heap.size #[(X3,m3,c3)] 58:=zam rfl;have S:=un I;have Z:=zx8 R.o;have X:=zx8 i.o.kb;clear Y W I hx3 hb3;go_wp2_with fail
 generalize g.alloc (.cells #[(X3,m3,c3)] 58)=W3 at *
 generalize g.heap.size=xb at *
 refine(Qt.div B G1 m' c' mg cg b (Nat.gcd a b) _ i.o.y L.o j.o q.o).mono ?_;rintro e d ⟨Y4,m4,c4,rfl,hy4,hb4⟩;have f:Hid (RS w (d.alloc (.cells #[(Y4,m4,c4)] 58)).drew A m c B m' c' a b):=un ((i.o.step hb4).step ((zae d _).drew));have O:Hid (zas (d.alloc (.cells #[(Y4,m4,c4)] 58)).drew (X3,m3,c3) (a/Nat.gcd a b)):=un (((N.o.below hb4).alloc _).drew);have P:Hid (zas (d.alloc (.cells #[(Y4,m4,c4)] 58)).drew (Y4,m4,c4) (b/Nat.gcd a b)):=un ((hy4.alloc _).drew);have ae:χ (d.alloc (.cells #[(Y4,m4,c4)] 58)).drew xb 0 (X3,m3,c3):=cell_al (zx8 (zad hb4 S.o));have af:χ (d.alloc (.cells #[(Y4,m4,c4)] 58)).drew d 0 (Y4,m4,c4):=zax rfl rfl;have ad:w.heap.size+4<=d.heap.size:=by have:=(ZS.1 (zad hb4 i.o.k3)).1;omega
 have u:=zx8 f.o.k2;have g4:=zag f.o.k2 0;have z:=zx8 f.o.k3;have V:=zag f.o.k3 0;have T:χ (d.alloc (.cells #[(Y4,m4,c4)] 58)) (w.heap.size+1+1) 0 ():=u;have U:χ (d.alloc (.cells #[(Y4,m4,c4)] 58)) (w.heap.size+1+1+1) 0 ():=z;have ac:(d.alloc (.cells #[(Y4,m4,c4)] 58)).frozen? ⟨w.heap.size+1+1+1,0,none⟩=false:=V;have ag:χ ((d.alloc (.cells #[(Y4,m4,c4)] 58)).setCell ⟨w.heap.size+1+1,0,none⟩ (X3,m3,c3)).drew d 0 (Y4,m4,c4):=cell_set ω (zax rfl rfl);clear Z X hy4 hb4;go_wp2_with fail
 go_region
 all_goals
  go_wp2;refine Zh (v:=.tuple #[.agg #[(X3,m3,c3)],.agg #[(Y4,m4,c4)]]) (by simp[results,results133,go_sem,u,z,T,U]) rfl ?_;exact⟨_,_,_,_,_,_,rfl,zas.setBox (zas.setBox O.o (Box.of f.o.k2)) (Box.set (Box.of f.o.k3)),zas.setBox (zas.setBox P.o (Box.of f.o.k2)) (Box.set (Box.of f.o.k3)),bsc (bsc f.o.bel)⟩
end Gc
structure IntS (w:World) (g:Bool) (s:Value) (z:Int):Prop where
  abs:zas w s z.natAbs
  neg:g=decide (z<0)
theorem IntS.below{w w':World}{g:Bool}{s:Value}{z:Int}(h:IntS w g s z)(a:Below w w w'):IntS w' g s z:=⟨h.abs.below a,h.neg⟩
theorem IntS.alloc{w:World}{g:Bool}{s:Value}{z:Int}(h:IntS w g s z)(o:Obj):IntS (w.alloc o) g s z:=⟨h.abs.alloc o,h.neg⟩
def zfg (w:World) (z:Int) (e:Ending) (w':World):Prop:=∃(g:Bool) (A:OA) (m c:Nat),e=.returned (.agg #[g,(A,m,c)])/\IntS w' g (A,m,c) z/\Below w w w'
namespace It
theorem zBc(g:Bool)(n:Nat):(g && !isZ n)=decide ((if g then -(n:Int)else (n:Int))<0):=by unfold isZ;grind
theorem zlh{u:Value}{s:Value}{n:Nat}(h:zas w s n)(a:θ w b #[false,()] 60):zas ((w.setCell ⟨b,0,none⟩ u).setCell ⟨b,1,none⟩ v) s n:=by have h1:=heap_setCell_same w b 0 _ 60 u a;exact(h.setCell (p:=⟨b,0,none⟩) a δ u).setCell (p:=⟨b,1,none⟩) h1 δ v
theorem new(g:Bool)(A:OA)(m c n:Nat)(w:World)(k:zas w (A,m,c) n) :
  Calls prog 89 #[g,.agg #[(A,m,c)]] w (zfg w (if g then -(n:Int)else (n:Int))):=by
 have q:=un (zBc g n);obtain⟨W,a⟩:∃W,W=(w.alloc (.cells #[(A,m,c)] 58)).alloc (.cells #[false,()] 60):=⟨_,rfl⟩
 have i:=un (show zas W (A,m,c) n by rw[a];exact(k.alloc _).alloc _);refine μ4 i.o.drew (show θ W w.heap.size #[(A,m,c)] 58by rw[a];exact zak (zam rfl)) (show θ W (w.heap.size+1) #[false,()] 60by rw[a];exact zam σ) (show Below w w W by rw[a];exact(zae w _).alloc σ _) λo j b f=>?_;have x:χ W.drew w 0 (A,m,c):=zac j.o 0;have y:χ (W.alloc (.cells #[(A,m,c)] 58)).drew w 0 (A,m,c):=cell_al (zac j.o 0);have d:Hid (θ (W.alloc (.cells #[(A,m,c)] 58)) (w.heap.size+1) #[false,()] 60):=un (zak b.o);have t:χ W (w.heap.size+1) 0 (.bool false):=zac b.o 0;have u:χ W (w.heap.size+1) 1 ():=zac b.o 1;have C:=zag b.o 0;have D:=zag b.o 1;have r:χ (W.alloc (.cells #[(A,m,c)] 58)) (w.heap.size+1) 0 (.bool false):=zac d.o 0;have s:χ (W.alloc (.cells #[(A,m,c)] 58)) (w.heap.size+1) 1 ():=zac d.o 1;have z:=zag d.o 0;have B:=zag d.o 1;clear k;have l:Hid (zas (W.alloc (.cells #[(A,m,c)] 58)) (A,m,c) n):=un (i.o.alloc _);cases g
 case false =>
  go_enter func89,ntmps89;go_wp2_with fail
  rw[<-a];clear a;go_region_with fail
  all_goals
   go_wp2;refine Zh (v:=.agg #[false,(A,m,c)]) (by simp[results,results89,go_sem,t,u]) rfl ?_;exact⟨false,A,m,c,rfl,⟨by simpa using(zlh i.o b.o).drew,σ⟩,(bsc (bsc f.o)).drew⟩
 go_enter func89,ntmps89;go_wp2_with fail
 rw[<-a];clear a;go_region_with (go_at_call 129;(with_reducible refine(Nt.zero (A,m,c) n _ o.o).mono ?_);rintro e E ⟨rfl,rfl⟩)
 all_goals
  go_wp2;refine Zh (v:=.agg #[.bool (!isZ n),(A,m,c)]) (by simp[results,results89,go_sem,r,s]) rfl ?_;exact⟨!isZ n,A,m,c,rfl,⟨by simpa using(zlh l.o d.o).drew,by have:=q.o;simpa using this⟩,(bsc (bsc (f.o.alloc f.o.size _))).drew⟩
end It
namespace It
theorem abs(g:Bool)(A:OA)(m c:Nat)(w:World):Calls prog 134 #[.agg #[g,(A,m,c)]] w λe w'=>e=.returned (.agg #[(A,m,c)])/\Below w w w':=by go_enter func134,ntmps134;go_wp2;exact Zh (v:=.agg #[(A,m,c)]) (by simp[results,results134,go_sem]) rfl ⟨rfl,(zae w _).alloc σ _⟩
theorem isBelow(g:Bool)(A:OA)(m c:Nat)(w:World):Calls prog 136 #[.agg #[g,(A,m,c)]] w λe w'=>e=.returned g/\Below w w w':=by go_enter func136,ntmps136;go_wp2;go_ret;exact⟨rfl,zae w _⟩
theorem signed(g:Bool)(z:Int)(h:g=decide (z<0)):(if (!g)=true then -((z.natAbs:Nat):Int)else ((z.natAbs:Nat):Int)) = -z:=ψ
theorem neg(g:Bool)(A:OA)(m c:Nat)(z:Int)(w:World)(h:IntS w g (A,m,c) z):Calls prog 143 #[.agg #[g,(A,m,c)]] w (zfg w (-z)):=by
 have d:=un (signed g z h.neg);have i:=un (new (!g) A m c z.natAbs _ ((h.abs.alloc (.cells #[g,(A,m,c)] 60)).alloc (.cells #[false,()] 60)));clear h;go_enter func143,ntmps143;go_wp2_with fail
 refine i.o.mono ?_;rintro e a ⟨g2,A2,m2,c2,rfl,hi,hb⟩;have kr:=un (zad hb (show θ ((w.alloc (.cells #[g,(A,m,c)] 60)).alloc (.cells #[false,()] 60)) (w.heap.size+1) #[false,()] 60from zam σ));have k:χ a (w.heap.size+1) 0 (.bool false):=zac kr.o 0;have l:χ a (w.heap.size+1) 1 ():=zac kr.o 1;have n:=zag kr.o 0;have o:=zag kr.o 1;have f:=un hi;have b:=un hb;clear hi hb;go_wp2;refine Zh (v:=.agg #[g2,(A2,m2,c2)]) (by simp[results,results143,go_sem,k,l]) rfl ?_;have hi:=f.o;rw[d.o]at hi;have j:Below w w a:=((zae w _).alloc σ _).trans (b.o.mono (by simp;omega));exact⟨g2,A2,m2,c2,rfl,⟨zlh hi.abs kr.o,hi.neg⟩,bsc (bsc j)⟩
theorem sign(g:Bool)(A:OA)(m c:Nat)(z:Int)(w:World)(h:IntS w g (A,m,c) z):Calls prog 126 #[.agg #[g,(A,m,c)]] w λe w'=>e=.returned (.int .i64 z.sign)/\Below w w w':=by
 have f:=un (h.abs.alloc (.cells #[g,(A,m,c)] 60));have hg:=h.neg;clear h;rcases Yn z 0 with hz | hz | hz
 ·rw[ZT hz]at hg;have a:=un (YZ hz);subst hg;clear hz;go_enter func126,ntmps126;go_wp2;go_ret
  exact⟨by rw[a.o];rfl,zae w _⟩
 ·subst hz;have b:g=false:=hg;subst b;have d:isZ (Int.natAbs 0)=true:=rfl;clear hg;go_enter func126,ntmps126;go_wp2_with (go_at_call 129;(with_reducible refine(Nt.zero (A,m,c) (Int.natAbs 0) _ f.o).mono ?_);rintro e i ⟨rfl,rfl⟩;rw[d])
  go_ret;exact⟨rfl,(zae w _).alloc σ _⟩
 have b:g=false:=by rw[hg,Z3 ω]
 have a:=un (Y0 hz);have d:isZ z.natAbs=false:=zk4 ω;subst b;clear hg hz;go_enter func126,ntmps126;go_wp2_with (go_at_call 129;(with_reducible refine(Nt.zero (A,m,c) z.natAbs _ f.o).mono ?_);rintro e i ⟨rfl,rfl⟩;rw[d])
 go_ret;exact⟨by rw[a.o];rfl,(zae w _).alloc σ _⟩
end It
namespace It
theorem cmp(g:Bool)(A:OA)(m c:Nat)(x:Int)(g':Bool)(B:OA)(m' c':Nat)(y:Int)(w:World)(h:IntS w g (A,m,c) x)(j:IntS w g' (B,m',c') y) :
  Calls prog 64 #[.agg #[g,(A,m,c)],.agg #[g',(B,m',c')]] w λe w'=>e=.returned (.int .i64 (ze9 x y))/\Below w w w':=by
 refine μ5 ((h.abs.alloc (.cells #[g,(A,m,c)] 60)).alloc (.cells #[g',(B,m',c')] 60)) ((j.abs.alloc (.cells #[g,(A,m,c)] 60)).alloc (.cells #[g',(B,m',c')] 60)) h.neg j.neg ((zae w (.cells #[g,(A,m,c)] 60)).alloc σ (.cells #[g',(B,m',c')] 60)) λk l f i d=>?_;clear h j;have a:∀ {p:Prop} [Decidable p],true=decide p->p:=λh=>XP h.symm
 have b:∀ {p:Prop} [Decidable p],false=decide p->¬p:=λh=>Vu h.symm
 cases g<;>cases g'
 ·have h1:=un (show ze9 ((x.natAbs:Nat):Int) ((y.natAbs:Nat):Int)=ze9 x y by have:=b f.o;have:=b i.o;rw[show((x.natAbs:Nat):Int)=x by omega,show((y.natAbs:Nat):Int)=y by omega])
  clear a b;go_enter func64,ntmps64;go_wp2_with (go_at_call 66;(with_reducible refine(Nt.cmp A B m c m' c' x.natAbs y.natAbs _ k.o l.o).mono ?_);rintro e n ⟨rfl,hb⟩;rw[h1.o])
  go_ret;exact⟨rfl,d.o.trans (hb.mono d.o.size)⟩
 ·have h1:=un (show ze9 x y=1 from zea (by have:=b f.o;have:=a i.o;omega));clear a b;go_enter func64,ntmps64;go_wp2;go_ret
  exact⟨by rw[h1.o];rfl,d.o⟩
 ·have h1:=un (show ze9 x y = -1 from zeb (by have:=a f.o;have:=b i.o;omega));clear a b;go_enter func64,ntmps64;go_wp2;go_ret
  exact⟨by rw[h1.o];rfl,d.o⟩
 have h1:=un (show ze9 ((y.natAbs:Nat):Int) ((x.natAbs:Nat):Int)=ze9 x y by have:=a f.o;have:=a i.o;unfold ze9;rcases Yn x y with h | h | h;rw[if_pos ω,if_pos h];rw[if_neg ω,if_neg ω,if_neg ω,if_neg ω];rw[if_neg ω,if_pos ω,if_neg ω,if_pos h]);clear a b;go_enter func64,ntmps64;go_wp2_with (go_at_call 66;(with_reducible refine(Nt.cmp B A m' c' m c y.natAbs x.natAbs _ l.o k.o).mono ?_);rintro e n ⟨rfl,hb⟩;rw[h1.o])
 go_ret;exact⟨rfl,d.o.trans (hb.mono d.o.size)⟩
