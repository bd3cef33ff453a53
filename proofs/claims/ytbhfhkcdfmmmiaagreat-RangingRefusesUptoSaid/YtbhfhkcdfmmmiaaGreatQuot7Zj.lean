/- Contracts and lemmas: Quot7. Conditions: as each says. -/
import Derived.Test.YtbhfhkcdfmmmiaaGreatQuot5Zj
set_option linter.all false
set_option maxHeartbeats 10000000
set_option maxRecDepth 100000
namespace Go.Proofs.YtbhfhkcdfmmmiaaGreat
open Go.RowKit Am Tryz
attribute [local go_sem ↓] Go.wp_at_zero Go.wp_at_succ
namespace Qt
theorem zJH(s:Value)(xs:List Nat)(w:World)(a:SW w s xs):Calls prog 95 #[.agg #[s]] w fun e w'=>e=.returned (xs.length:Int)∧Below w w w' :=
 (Nt.len s xs w a).mono fun e w' h=>⟨h.1,by rw[h.2];simp[zae]⟩
theorem zBr(s:Value)(xs:List Nat)(k x:Nat)(K:Int)(a:K=(k:Int))(w:World)(b:SW w s xs)(c:wd xs k=x):Calls prog 138 #[.agg #[s],.int .i64 K] w fun e w'=>e=.returned (.int .u64 (x:Int))∧Below w w w':=by
 subst a;exact(Nt.word s xs k (Zf _) w b).mono fun e w' h=>⟨by rw[h.1,←c];rfl,by rw[h.2];simp[zae]⟩
theorem zH4(x s:Nat)(c:x<18446744073709551616)(b:64-blen x=s)(w:World):Calls prog 163 #[.int .u64 x] w fun e w'=>e=.returned (s:Int)∧Below w w w' :=
 (Word.lead x c w).mono fun e w' h=>by grind[zap]
theorem zvm(W:World)(g n c k:Nat)(K:Int)(b:K=(k:Int))(h1:k≤c)(a:0<c) :
  (Instr.slice 35 (g,n,c) none (some (.int .i64 K)) none).run prog W=.ok (g,k,c) W:=by grind[Pr.run_upto]
theorem ztS{V a W b:World}{f i:Value}{xs:List Nat}{H n m:Nat}(o:Below V V a)(s:(wcells xs).length=m)(c:b.ownsRow H 165 1 i (n+2) (wcells (xs++[0,0])))(q:W.grownBy b f.ownBlock)
  (l:W.ownsRow H 165 1 f n (wcells xs)) (d:Below a a W) (t:n+([0,0]:List Nat).length=n+2) (e:V.heap.size≤a.heap.size) (j:V.heap.size≤H) :
  ∃g p,i=.slice (some ⟨g,0,none⟩) (n+2) p∧n+2≤p∧V.heap.size≤g∧b.ownsRow H 165 1 (.slice (some ⟨g,0,none⟩) (n+2) p) (n+2) (wcells (xs++[0,0]))∧Below V V b:=by
 obtain⟨g,p,rfl,r,hg⟩:=zxt c (by omega);refine⟨g,p,rfl,r,by omega,c,?_⟩;exact(o.trans (d.mono e)).grown q (Zc e d.size) (fun k hk=>Zc j (l.lt k hk).1)
theorem zDD(u2 u1 u0 v1 v0:Nat)(w:World)(a:u2≤v1)(h1:u1<18446744073709551616)(h0:u0<18446744073709551616)(c:9223372036854775808≤v1)(f:v1<18446744073709551616)(d:v0<18446744073709551616) :
  Calls prog 165 #[.int .u64 (u2:Int),.int .u64 (u1:Int),.int .u64 (u0:Int),.int .u64 (v1:Int),.int .u64 (v0:Int)] w fun e w'=>∃q:Nat,e=.returned (.int .u64 (q:Int))∧GuessIs u2 u1 u0 v1 v0 q∧Below w w w' :=
 (guess u2 u1 u0 v1 v0 w a h1 h0 c f d).mono fun e w' h=>by grind[zap]
theorem zr4(A B:OA)(m c m' c' a b:Nat)(w:World)(ha:zas w (A,m,c) a)(hb:zas w (B,m',c') b)(R:¬wlen b≤1)(hle:b≤a)(cw:wlen a+1≤LIM) :
    Calls prog 157 #[.agg #[(A,m,c)],.agg #[(B,m',c')]] w (zv4 w (a/b) (a%b) true):=by
  obtain⟨ys,hy,cn,cC,cy,hm⟩:=hb.words;subst hm;have HA:=un ha;have bG:=un hb;have HY:=un hy;have eE:¬(ys.length:Int)≤1:=by omega
  have a6:=un cy;have dh:=un cC;clear ha hb hy cy cC;have W0:∃W,W=(((w.alloc (.cells #[(A,m,c)] 37)).alloc (.cells #[(B,ys.length,c')] 37)).alloc (.cells #[()] 37)).alloc (.cells #[()] 37):=⟨_,rfl⟩
  obtain⟨W,J⟩:=W0;have hz:W.heap.size=w.heap.size+1+1+1+1:=by rw[J];simp
  have i:W.cell? ⟨w,0,none⟩=some (A,m,c):=by rw[J];exact cell_al (cell_al (cell_al (zax rfl rfl)))
  have k1:W.cell? ⟨w.heap.size+1,0,none⟩=some (B,ys.length,c'):=by rw[J];exact cell_al (cell_al (zax (by simp) rfl))
  have r2:W.heap[w.heap.size+1+1]? = some (.cells #[()] 37 (0,0)):=by rw[J];exact zak (zam (by simp))
  have r3:W.heap[w.heap.size+1+1+1]? = some (.cells #[()] 37 (0,0)):=by rw[J];exact zam (by simp)
  have hB:Below w w W:=by rw[J];exact(((zae w _).alloc (by simp) _).alloc (by simp;omega) _).alloc (by simp;omega) _
  have F:=un (HA.o.below hB);have NB:=un (bG.o.below hB);have I:=un (HY.o.below hB);have P:=un r2;have Q:=un r3;have C:=un hB;have O:=un hz;clear r2 r3 hB hz HA bG HY;go_enter func157,ntmps157;go_wp2_with fail
  rw[←J];clear J;refine(Nt.len (B,ys.length,c') ys _ I.o).mono ?_;rintro e w' ⟨rfl,rfl⟩;have i:=cell_al (ob:=.cells #[(B,ys.length,c')] 37) i;have k1:=cell_al (ob:=.cells #[(B,ys.length,c')] 37) k1;go_wp2_with fail
  refine(Nt.cmp A B m c ys.length c' a b _ (F.o.alloc _) (NB.o.alloc _)).mono ?_;rintro e l ⟨rfl,hb2⟩;have E:Below W.heap.size W l:=((zae W _).trans (hb2.mono (by simp)))
  have i:=zab hb2 i;have k1:=zab hb2 k1;have F:=un (F.o.below E);have NB:=un (NB.o.below E);have I:=un (I.o.below E);have P:=un (zad E P.o);have Q:=un (zad E Q.o);have C:=un (C.o.trans (E.mono (by have:=O.o;omega)));have O:=un (show w.heap.size+4≤l.heap.size by have:=O.o;have:=E.size;omega);clear hb2 E
  have d1:¬ze9 (a:Int) (b:Int)<0:=by
    rcases ZV b a with h | h
    · rw[zea (by omega)];omega
    · rw[zgN (by omega)];omega
  obtain⟨cv,aF⟩:∃cv,cv=ze9 (a:Int) (b:Int):=⟨_,rfl⟩
  rw[←aF]at d1 ⊢;clear aF;go_wp2_with fail
  obtain⟨top,aI⟩:∃top,wd ys (ys.length-1)=top:=⟨_,rfl⟩
  obtain⟨s,hs⟩:∃s,64-blen top=s:=⟨_,rfl⟩
  have bW:=un aI;have bT:=un hs;obtain⟨L,bg⟩:∃L,ys.length=L+1:=⟨ys.length-1,by have:=a6.o;omega⟩
  have X:=un (show(b*2^s<B64^(L+1)∧2^63*B64^L≤b*2^s)∧1≤L∧L+1≤wlen a by
    have h0:0<top:=by
      rw[←aI];exact XV (zoq cn (by omega))
    have h1:=zqo (L:=L) (top:=top) (s:=s) I.o.2 bg (by rw[←aI,bg];rfl) h0 hs;rw[dh.o]at h1;have h2:=a6.o;have h3:=zco hle;exact⟨h1,by omega,by omega⟩)
  clear bg;have dw:=un (show top<18446744073709551616 by rw[←aI];exact zdM I.o.2 _);have dX:2≤ys.length:=by have:=a6.o;omega
  have db:=un dX;have eF:ys.length≤9223372036854775807:=I.o.len_le;have ce:IntKind.i64.wrap ((ys.length:Int)-1)=((ys.length-1:Nat):Int):=by rw[Z9 _ (by omega)];omega
  have da:=un ce;have aO:=un (show wlen a≤LIM by omega);have bN:=un cw;have dd:=un hle;clear aI hs ce cw hle R;have HS:=un (show ∀w',Below l l w'→((w'.cell? ⟨w,0,none⟩=some (A,m,c)∧w'.cell? ⟨w.heap.size+1,0,none⟩=some (B,ys.length,c'))∧Below l l w')from fun w' h=>⟨⟨zab h i,zab h k1⟩,h⟩);go_cut[10] (fun en wr=>en=.int .i64 (s:Int)∧Below l l wr)
  case first =>
    go_region_held3 (fun w'=>((w'.cell? ⟨w,0,none⟩=some (A,m,c)∧w'.cell? ⟨w.heap.size+1,0,none⟩=some (B,ys.length,c'))∧Below l l w'))
      ((refine HS.o _ ?_;repeat(first | exact Zg _ _ | exact(by assumption:_∧Below _ _ _).2 | with_reducible refine bdrew ?_ | with_reducible refine al2 ?_ _ | with_reducible refine set2 ?_ (by omega) | with_reducible refine zc1 ?_ (by assumption))))
      (first
        | (go_at_call 95;(with_reducible refine(zJH (B,ys.length,c') ys _ (I.o.below (by assumption:_∧Below _ _ _).2)).mono ?_);rintro e u1 ⟨rfl,R⟩;have ee:=R.size;(try simp at ee);have eG:l.heap.size≤u1.heap.size:=(by omega))
        | (go_at_call 138;(with_reducible refine(zBr (B,ys.length,c') ys (ys.length-1) top (IntKind.i64.wrap ((ys.length:Int)-1)) da.o _ (I.o.below (by assumption:_∧Below _ _ _).2) bW.o).mono ?_);rintro e u2 ⟨rfl,hb2⟩;have ef:=hb2.size;(try simp at ef);have eH:l.heap.size≤u2.heap.size:=(by omega))
        | (go_at_call 163;(with_reducible refine(zH4 top s dw.o bT.o _).mono ?_);rintro e u3 ⟨rfl,hb3⟩;have eg:=hb3.size;(try simp at eg);have eI:l.heap.size≤u3.heap.size:=(by omega)))
    all_goals
      go_wp2;go_meet
      case rel=>exact⟨rfl,(by assumption:_∧Below l l _).2⟩
  case rest =>
    obtain⟨rfl,g⟩:=hcut;rename World=>w3
    have i:=zab g i;have k1:=zab g k1;have F:=un (F.o.below g);have NB:=un (NB.o.below g);have I:=un (I.o.below g);have P:=un (zad g P.o);have Q:=un (zad g Q.o);have C:=un (C.o.trans (g.mono (by have:=O.o;omega)));have O:=un (show w.heap.size+4≤w3.heap.size by have:=O.o;have:=g.size;omega);clear g HS
    have cJ:s<64:=by
      rw[←bT.o]
      have h0:0<top:=by
        rw[←bW.o];exact XV (zoq cn (by have:=db.o;omega))
      have:=zhl h0;omega
    have aw:=un cJ;have cx:wlen b≤LIM:=Zc (zco dd.o) aO.o;have dc:=un cx;clear cJ cx;go_wp2_with fail
    refine(Nt.shl B ys.length c' b s _ NB.o aw.o dc.o).mono ?_;rintro e T ⟨Av,mv,cv',rfl,hv4,hb4⟩;have cW:=cell_al (ob:=.cells #[(Av,mv,cv')] 37) (zab hb4 i);have bY:=un (hv4.alloc (.cells #[(Av,mv,cv')] 37));have E:Below w3 w3 (T.alloc (.cells #[(Av,mv,cv')] 37)):=hb4.trans (zae T _ |>.mono hb4.size);have b4:=un (F.o.below E);have b3:=un hb4.size;have HV:=un E;clear hv4 hb4 E k1;go_wp2_with fail
    refine(Nt.shl A m c a s _ b4.o aw.o aO.o).mono ?_;rintro e y ⟨As,ms,cs,rfl,hs5,hb5⟩;have aD:Below w3 w3 (y.alloc (.cells #[(As,ms,cs)] 37)):=(HV.o.trans (hb5.mono HV.o.size)).trans ((zae y _).mono (Zc HV.o.size hb5.size));have aY:Below (T.alloc (.cells #[(Av,mv,cv')] 37)).heap.size (T.alloc (.cells #[(Av,mv,cv')] 37)) (y.alloc (.cells #[(As,ms,cs)] 37)):=hb5.trans ((zae y _).mono hb5.size)
    have i:(y.alloc (.cells #[(As,ms,cs)] 37)).cell? ⟨w,0,none⟩=some (A,m,c):=zab aY cW;have kv:(y.alloc (.cells #[(As,ms,cs)] 37)).heap[T.heap.size]? = some (.cells #[(Av,mv,cv')] 37 (0,0)):=zad aY (zam rfl);have ks:(y.alloc (.cells #[(As,ms,cs)] 37)).cell? ⟨y,0,none⟩=some (As,ms,cs):=zax rfl rfl;have F:=un (F.o.below aD);have NV:=un (bY.o.below aY);have NS:=un (hs5.alloc (.cells #[(As,ms,cs)] 37));have P:=un (zad aD P.o)
    have Q:=un (zad aD Q.o);have C:=un (C.o.trans (aD.mono (by have:=O.o;omega)));have dD:=un (show w.heap.size+4≤T.heap.size∧T.heap.size<y.heap.size∧(y.alloc (.cells #[(As,ms,cs)] 37)).heap.size=y.heap.size+1 by have:=O.o;have:=b3.o;have:=hb5.size;simp at this;simp;omega);have KV:=un kv;clear cW aD aY hb5 hs5 kv bY b4 HV NB I O b3;go_wp2_with fail
    generalize hq1:T.heap.size=gv at *
    generalize hq2:y.heap.size=gs at *
    generalize y.alloc (.cells #[(As,ms,cs)] 37)=V at *
    clear hq1 hq2
    have bZ:=un (show ∀k,(Value.slice Av mv cv').ownBlock=some k→k<V.heap.size by
      obtain⟨zs,hz,_⟩:=NV.o;exact fun k hk=>hz.block hk)
    obtain⟨d,cK,d0,d8,aE,d5⟩:=F.o.words;subst d5;obtain⟨xs,cL,d3,cB,bp,d7⟩:=NS.o.words;subst d7
    have cS:xs.length≤d.length+1:=by
      rw[bp,aE];have h1:=zdy a (2^s);have h2:wlen (2^s)≤1:=zdl (Xp (Xd (show 0<2 by decide) (Nat.le_of_lt_succ aw.o)) (by decide));omega
    have cT:d.length≤xs.length:=by
      rw[bp,aE];exact zco (Nat.le_mul_of_pos_right a (Zx (by decide)))
    have cl:d.length≤LIM:=by rw[aE];exact aO.o
    have SA:=un cL;have SN:=un cK;have aK:=un aE;have dg:=un cB;have dC:=un cS;have bc:=un cT;have a1:=un cl;have SL:=un (show xs.length≤LIM by have:=bN.o;omega);have dY:d.length≤9223372036854775800:=by have:=zaP;omega
    have cZ:=un (show IntKind.i64.wrap ((d.length:Int)+1)=((d.length+1:Nat):Int)by rw[Z9 _ (by omega)];omega);clear cK d0 d8 aE cL d3 cB bp cS cT cl;have ej:V.drew.cell? ⟨w,0,none⟩=some (A,d.length,c):=i;have ei:(V.alloc (.cells #[.int .u64 0,.int .u64 0] 165)).drew.cell? ⟨w,0,none⟩=some (A,d.length,c):=cell_al i;have el:V.drew.cell? ⟨gs,0,none⟩=some (As,xs.length,cs):=ks
    have ek:(V.alloc (.cells #[.int .u64 0,.int .u64 0] 165)).drew.cell? ⟨gs,0,none⟩=some (As,xs.length,cs):=cell_al ks;have bh:Below V V (V.alloc (.cells #[.int .u64 0,.int .u64 0] 165)).drew:=(zae V _).drew;go_cut[15] (fun eo wr=>∃(H cu:Nat),eo=(H,d.length+1,cu)∧d.length+1≤cu∧V.heap.size≤H∧wr.ownsRow H 165 1 (H,d.length+1,cu) (d.length+1) (wcells ((xs++[0,0]).take (d.length+1)))∧Wds xs∧Below V V wr)
    case first =>
      go_region_law (first
        | (refine znT (by rfl) 139 func139 (by kernel_rfl) (by rfl) _ _ (by rfl) _ (by rfl) (Nt.wordsF As xs.length cs xs _ (by first | exact SA.o.drew | exact (SA.o.alloc _).drew) SL.o) ?_;rintro e w6 ⟨A6,m6,c6,rfl,hO6,hW6,hb6⟩;refine ⟨_,rfl,?_⟩;
           have av:=un hO6;have bD:=un hb6.size;have c0:=un (show V.heap.size≤w6.heap.size from(by first | exact Zc (by simp) hb6.size));have dy:=un hW6;have bC:=un (show Below V V w6 by first | exact(zap V 1).trans (hb6.mono (by first | exact Za _ | (simp;done))) | exact bh.trans (hb6.mono bh.size));
           have eh:=zab bC.o i;have eN:=cell_al (ob:=.cells #[.int .u64 0,.int .u64 0] 165) eh;try(have L6:∀j u,(wcells [0,0])[j]? = some u→w6.cell? ((⟨V,0,none⟩:Addr).add j)=some u:=fun j u hu=>(Below.cell hb6 (XC (V.alloc (.cells #[.int .u64 0,.int .u64 0] 165)) _ (zH5 V V.heap.size rfl j u hu))).trans (zH5 V V.heap.size rfl j u hu)))
        | ((refine zo4 (by rfl) _ _ (by rfl) (by first | exact av.o.alloc _ | exact av.o) (by rfl) (by rfl) (xs:=[0,0]) (by rfl) (by first | exact zH5 _ _ (by rfl) | exact L6) (by have:=SL.o;have:=zaP;simp;omega) (by first | exact bD.o | exact Zc bD.o (by simp)) ?_;rintro v7 w7 ch cq;have hq:=ztS bC.o av.o.1 ch cq (by first | exact av.o.alloc _ | exact av.o) (by first | exact zae _ _ | exact Zg _ _) (by rfl) c0.o (by first | exact Za _ | simp);obtain⟨H7,p7,rfl,eC,cb,aB,aZ⟩:=hq;have a7:=un aB;have bE:=un aZ;have c9:=un cb;have eO:=zab aZ i;have dK:=un (SN.o.below aZ);have cD:d.length+1≤p7:=(by have:=bc.o;omega);have eD:=fun W=>zvm W H7 (xs.length+2) p7 (d.length+1) (IntKind.i64.wrap ((d.length:Int)+1)) cZ.o cD (by omega);clear ch cq aB aZ cb))
        | (refine znT (by rfl) 95 func95 (by kernel_rfl) (by rfl) _ _ (by rfl) _ (by rfl) (zJH (A,d.length,c) d _ dK.o) ?_;rintro e w8 ⟨rfl,hb8⟩;refine⟨_,rfl,?_⟩;have bF:=un hb8;clear hb8))
      all_goals
        go_wp2;go_meet
        case rel=>exact⟨H7,p7,rfl,cD,c9.o,zxv (zfF a7.o bF.o) (by have:=bc.o;omega),dy.o,bE.o.trans (bF.o.mono bE.o.size)⟩
    case rest =>
      obtain⟨H,cu,rfl,d2,cd,hO,ci,g⟩:=hcut;rename World=>Y
      have KV:=un (zad g KV.o);have i:=zab g i;have F:=un (SN.o.below g);have NV:=un (NV.o.below g);have P:=un (zad g P.o);have Q:=un (zad g Q.o);have C:=un (C.o.trans (g.mono C.o.size));have HO:=un hO;have dB:=un ci;have dt:=un (show V.heap.size≤H∧V.heap.size≤Y.heap.size by exact⟨cd,g.size⟩);clear g hO ci cd SA SN NS ej ei el ek ks bh;obtain⟨vs,bm,aF,bj,ec,d6⟩:=NV.o.words;subst d6;have cA:=zxq bm.2 aF bj X.o.1.1 X.o.1.2;have SV:=un bm;have ak:=un cA
      have aT:=un bj;have bk:=zA6 bc.o dC.o;rw[dg.o]at bk;have cR:Wds ((xs++[0,0]).take (d.length+1)):=(dB.o.append (by intro z hz;simp at hz;subst hz;decide)).take _;generalize (xs++[0,0]).take (d.length+1)=us at *
      have aQ:=un bk;have dA:=un cR;clear bm aF bj ec cA bk cR;have em:=zac KV.o 0;simp only[ZF,Zz]at em;go_wp2_with fail
      refine(Nt.len (Av,vs.length,cv') vs _ SV.o).mono ?_;rintro e w' ⟨rfl,rfl⟩;have i:=cell_al (ob:=.cells #[(Av,vs.length,cv')] 37) i;go_wp2_with fail
      refine(Nt.len (A,d.length,c) d _ (F.o.alloc _)).mono ?_;rintro e w' ⟨rfl,rfl⟩;have ed:vs.length≤d.length:=by have:=ak.o.1;have:=X.o.2.2;have:=aK.o;omega
      obtain⟨nq,d9⟩:∃nq,nq=d.length-vs.length+1:=⟨_,rfl⟩
      have au:=un (show nq+vs.length=d.length+1 by omega);have cf:wrap64 (wrap64 ((d.length:Int)-(vs.length:Int))+1)=(nq:Int):=by unfold wrap64;omega
      have de:=un cf;have ea:nq≤16*LIM:=by have:=a1.o;have:=zaP;omega
      have aP:=un ea;clear d9 cf ed;have cj:Below Y Y ((Y.alloc (.cells #[(Av,vs.length,cv')] 37)).alloc (.cells #[(A,d.length,c)] 37)):=(zae Y _).alloc (by simp) _;generalize (Y.alloc (.cells #[(Av,vs.length,cv')] 37)).alloc (.cells #[(A,d.length,c)] 37)=Z at *
      have aa:=un cj;clear cj i;go_wp2_with (at_make;go_must (refine zdz rfl _ _ rfl nq _ rfl rfl de.o aP.o Z.heap.size rfl ?_))
      intro w1 ho
      have hD:DS w w1 H Z.heap.size gv d.length nq cu us (List.replicate nq 0) vs Av cv' :=
        ⟨zfF (zfF HO.o aa.o) ho.bel,ho.own,zad ho.bel (zad aa.o KV.o),(SV.o.below aa.o).below ho.bel,zad ho.bel (zad aa.o P.o),zad ho.bel (zad aa.o Q.o),(C.o.trans (aa.o.mono C.o.size)).trans (ho.bel.mono (Zc C.o.size aa.o.size))⟩
      have hF:DF w H Z.heap.size gv (Av,vs.length,cv'):=by
        have h1:=dt.o;have h2:=(HO.o.lt H rfl).2;have h3:=aa.o.size;have h4:=dD.o;exact⟨by omega,by omega,by omega,fun e=>by have:=bZ.o _ e;omega,fun e=>by have:=bZ.o _ e;omega⟩
      have HD:=un hD;have U:=un hF;clear ho hD hF;generalize Z.heap.size=G at *
      have hI:LdInv (a*2^s) (nval vs) us (List.replicate nq 0) nq:=by
        refine⟨dA.o,Wds.replicate nq,by rw[zbK,aQ.o.1];simp,?_,fun j _=>by rw[Zi,ZJ];split<;>rfl⟩;have h1:=zw3 (us:=us) (vs:=vs) (a:=a) (s:=s) (n:=d.length) (L:=L) aQ.o.2 aQ.o.1 (by rw[aK.o];exact zfD a) aw.o (by have:=X.o.2.2;have:=aK.o;omega) (by rw[aT.o];exact X.o.1.2);rw[show nq=d.length-L by have:=au.o;have:=ak.o.1;omega];exact h1
      have o:=un hI;clear hI;go_wp2_with fail
      go_loopw [18] (fun kv wr=>∃(k:Nat) (f qs:List Nat),kv=.int .i64 ((k:Int)-1)∧k≤nq∧f.length=d.length+1∧qs.length=nq∧LdInv (a*2^s) (nval vs) f qs k∧DS w wr H G gv d.length nq cu f qs vs Av cv')
        (fun kv _=>(intOf kv+1).toNat)
      case atStart =>
        have h1:wrap64 ((nq:Int)-1)=(nq:Int)-1:=by have:=aP.o;have:=zaP;unfold wrap64;omega
        exact⟨nq,us,List.replicate nq 0,by rw[h1],Za _,aQ.o.2,Zr,o.o,HD.o⟩
      case round =>
        obtain⟨k,f,qs,rfl,hk,cP,cH,hI,hD⟩:=hrel;have o:=un hI;have HD:=un hD;have N:=un cP;have M:=un cH;clear hI hD cP cH;rcases k with _ | k
        · have co:=unshift (a:=a) (b:=b) (s:=s) (q:=nval qs) (r:=nval f) (by have:=o.o.eq;rw[aT.o]at this;exact this) (by have:=o.o.lt;rw[XZ,aT.o]at this;exact this);have bK:=un co
          have cI:wlen (nval f)≤LIM:=by
            have h1:=o.o.lt;rw[XZ,aT.o]at h1;have h2:wlen (nval f)≤L+1:=zaZ (Nat.lt_trans h1 X.o.1.1);have:=X.o.2.2;have:=aO.o;omega
          have ds:=un cI;clear co cI;go_wp2_with fail
          refine(Nt.of _ qs _ (HD.o.swQ M.o o.o.wq).reads (by rw[M.o];have:=au.o;have:=ak.o.1;have:=a1.o;omega)).mono ?_;rintro e l ⟨A2,m2,c2,rfl,hq2,hb2⟩;have aL:=un (HD.o.step hb2);have dm:=un hq2;clear hq2 hb2;go_wp2_with fail
          refine(Nt.of _ f _ (aL.o.swU N.o o.o.wu).reads (by rw[N.o,aK.o];exact bN.o)).mono ?_;rintro e w3 ⟨A3,m3,c3,rfl,hr3,hb3⟩;have ar:=un (aL.o.step hb3);have dn:=un (dm.o.below hb3);have dq:=un hr3;clear hr3 hb3;go_wp2_with fail
          refine(Nt.shr A3 m3 c3 (nval f) s _ dq.o aw.o ds.o).mono ?_;rintro e T ⟨A4,m4,c4,rfl,aH,hb4⟩;have D:=un (ar.o.step hb4);have dp:=un (dn.o.below hb4);have dr:=un aH;clear aH hb4;have g3:=zac D.o.r2 0;have g4:=zag D.o.r2 0;have g5:=zac D.o.r3 0;have g6:=zag D.o.r3 0;simp only[ZF,Zz]at g3 g5;go_wp2
          refine Zd (v:=.tuple #[.agg #[(A2,m2,c2)],.agg #[(A4,m4,c4)],true]) (by simp[results,results157,go_sem,g3,g5]) rfl ?_;have cF:=dp.o;have aH:=dr.o;rw[bK.o.1]at cF;rw[bK.o.2]at aH;exact⟨_,_,_,_,_,_,rfl,zas.setBox (zas.setBox cF (Box.of D.o.r2)) (Box.set (Box.of D.o.r3)),zas.setBox (zas.setBox aH (Box.of D.o.r2)) (Box.set (Box.of D.o.r3)),bsc (bsc D.o.bel)⟩
        · have J:=zvB o.o.wu SV.o.2 o.o.lt (by have:=N.o;have:=au.o;omega);have aV:=un J;have HK:=un (show k+vs.length≤d.length by have:=au.o;omega);have e1:((k+1:Nat):Int)-1=(k:Int):=by omega
          simp only[e1];clear J e1;go_wp2_with fail
          have bo:2≤vs.length:=by have:=ak.o.1;have:=X.o.2.1;omega
          have dZ:=dY;obtain⟨x,bn⟩:∃t,t=k+vs.length:=⟨_,rfl⟩
          obtain⟨t1,cN⟩:∃t,t=k+vs.length-1:=⟨_,rfl⟩
          obtain⟨t0,cM⟩:∃t,t=k+vs.length-2:=⟨_,rfl⟩
          obtain⟨S,a0⟩:∃t,t=vs.length-1:=⟨_,rfl⟩
          obtain⟨m0,cz⟩:∃t,t=vs.length-2:=⟨_,rfl⟩
          have d4:=HK.o;have q2:x<d.length+1:=by omega
          have q1:t1<d.length+1:=by omega
          have q0:t0<d.length+1:=by omega
          have qk:k<nq:=by have:=au.o;omega
          have W2:=un (show IntKind.i64.wrap ((k:Int)+(vs.length:Int))=(x:Int)by rw[Z9 _ (by omega)];omega);have W1:=un (show IntKind.i64.wrap ((x:Int)-1)=(t1:Int)by rw[Z9 _ (by omega)];omega);have W0:=un (show IntKind.i64.wrap ((x:Int)-2)=(t0:Int)by rw[Z9 _ (by omega)];omega);have X1:=un (show IntKind.i64.wrap ((vs.length:Int)-1)=(S:Int)by rw[Z9 _ (by omega)];omega)
          have X0:=un (show IntKind.i64.wrap ((vs.length:Int)-2)=(m0:Int)by rw[Z9 _ (by omega)];omega);have cp:wd f x≤wd vs S:=by rw[bn,a0];exact aV.o.top o.o.wu SV.o.2 bo
          have ct:9223372036854775808≤wd vs S:=by rw[a0,ak.o.1];exact ak.o.2
          have c8:=un cp;have bL:=un ct;have bU:=un bn;have dv:=un cN;have du:=un cM;have bO:=un a0;have df:=un cz;have bX:=un bo;have K:=un qk;clear cp ct;have D0:DS w wr.drew H G gv d.length nq cu f qs vs Av cv':=HD.o.step (zap wr 1);have bH:=un D0;have dT:=D0.cellU N.o q2;have dS:=D0.cellU N.o q1;have dR:=D0.cellU N.o q0;have cV:=D0.cellV;have i2:(x:Int)<(d.length:Int)+1:=by omega
          have i1:(t1:Int)<(d.length:Int)+1:=by omega
          have i0:(t0:Int)<(d.length:Int)+1:=by omega
          have ik:(k:Int)<(nq:Int):=by omega
          have dJ:=un q2;have et:=un q1;have es:=un q0;clear D0 bn cN cM a0 cz bo d4 q2 q1 q0 qk dZ;have eS:=W2.o;have eR:=W1.o;have eQ:=W0.o;have eW:=X1.o;have eV:=X0.o;have dG:=un (zdM o.o.wu t1);have dF:=un (zdM o.o.wu t0);have dI:=un (zdM SV.o.2 S);have dH:=un (zdM SV.o.2 m0);go_cut[] (fun er=>∃(q:Nat),GuessIs (wd f x) (wd f t1) (wd f t0) (wd vs S) (wd vs m0) q∧DS w er H G gv d.length nq cu f (qs.set k q) vs Av cv')
          case first =>
            have eA:H<G:=U.o.hg;have eB:gv<G:=Nat.lt_trans U.o.gh U.o.hg
            go_region_held3 (fun w'=>w'.cell? ⟨H,x,none⟩=some (.int .u64 ((wd f x:Nat):Int))∧w'.cell? ⟨H,t1,none⟩=some (.int .u64 ((wd f t1:Nat):Int))∧w'.cell? ⟨H,t0,none⟩=some (.int .u64 ((wd f t0:Nat):Int))∧w'.cell? ⟨gv,0,none⟩=some (Av,vs.length,cv'))
              (((try go_split_ands);(try simp only[Z3]);(repeat' apply And.intro)<;>(first | assumption | exact zab R (by assumption) | exact zab hb2 (by assumption) | exact zab hb3 (by assumption) | exact cell_set (by omega) (by assumption))))
              (first
                | (go_at_call 138;(with_reducible refine(zBr (Av,vs.length,cv') vs S (wd vs S) (S:Int) rfl _ bH.o.sv rfl).mono ?_);rintro e y1 ⟨rfl,R⟩;have bI:=un (bH.o.step R))
                | (go_at_call 138;(with_reducible refine(zBr (Av,vs.length,cv') vs m0 (wd vs m0) (m0:Int) rfl _ bI.o.sv rfl).mono ?_);rintro e y2 ⟨rfl,hb2⟩;have aL:=un (bI.o.step hb2))
                | (go_at_call 165;(with_reducible refine(zDD (wd f x) (wd f t1) (wd f t0) (wd vs S) (wd vs m0) _ c8.o dG.o dF.o bL.o dI.o dH.o).mono ?_);rintro e y3 ⟨q,rfl,al,hb3⟩;have ar:=un (aL.o.step hb3);have aN:=un al;have cQ:=ar.o.cellQ M.o K.o;have fQ:=ar.o.q.frozenAt k;clear al))
            all_goals
              go_wp2;go_meet
              case rel=>exact⟨q,aN.o,ar.o.setQ U.o k q⟩
          case rest =>
            obtain⟨q,al,ca⟩:=hcut;rename World=>y4
            have cr:GuessIs (wd f (k+vs.length)) (wd f (k+vs.length-1)) (wd f (k+vs.length-2)) (wd vs (vs.length-1)) (wd vs (vs.length-2)) q:=by
              have:=al;rw[bU.o,dv.o,du.o,bO.o,df.o]at this;exact this
            have aN:=un cr;have cG:q<18446744073709551616:=al.lt;have bQ:=un cG;have D4:DS w y4.drew H G gv d.length nq cu f (qs.set k q) vs Av cv':=ca.step (zap y4 1);have D:=un D4
            have dP:y4.drew.cell? ⟨G,k,none⟩=some (.int .u64 (q:Int)):=by
              have h:=D4.cellQ (by rw[ZE];exact M.o) K.o;have e:wd (qs.set k q) k=q:=by unfold wd;rw[zcU _ _ _ _ (by rw[M.o];exact K.o),if_pos rfl]
              rw[e]at h;exact h
            have dU:=D4.cellV;have dj:=un (D4.outC N.o);have ap:=un (show k+vs.length+1≤cu by have:=HK.o;omega);have b1:=un (show IntKind.i64.wrap ((x:Int)+1)=((k+vs.length+1:Nat):Int)by have:=dJ.o;have:=bU.o;rw[Z9 _ (by omega)];omega);have aG:=fun W=>zvl W H (d.length+1) cu k (k+vs.length+1) (IntKind.i64.wrap ((x:Int)+1)) b1.o (by omega) ap.o (by have:=ap.o;omega)
            rw[show k+vs.length+1-k=vs.length+1 by omega]at aG;have a9:=un (show k+vs.length<d.length+1 by have:=HK.o;omega);have dx:=un (show vs.length+1≤cu-k by have:=ap.o;omega);have bV:=un (show d.length+1≤2*LIM by have:=a1.o;have:=zaP;omega);have b0:=un U.o.vh;clear al cr ca D4 cG dT dS dR cV d2;go_wp2_with fail
            go_region_with (go_at_call 166;(with_reducible refine(take y4.drew y4.drew H (d.length+1) cu k (cu-k) q f vs Av cv' dj.o D.o.sv b0.o o.o.wu bQ.o a9.o dx.o bV.o).mono ?_);rintro e y5 ⟨bb,us2,rfl,hbb,hO5,hw5,hs5,he5⟩;have di:=un hO5;have aU:=un hw5;have aR:=un hs5;have a2:=un he5;clear hO5 hw5 hs5 he5)
            all_goals
              have D5:=D.o.ofOut U.o di.o;have aM:=un D5;have ba:=un (show us2.length=d.length+1 by rw[aR.o.1];exact N.o);have a4:=un (show k<qs.length by rw[M.o];exact K.o);have a5:=un (show k≤f.length by rw[N.o];have:=a9.o;omega);have bM:=un (show 9223372036854775808≤wd vs (vs.length-1)by rw[←bO.o];exact bL.o);clear D5 dP dU aG;rcases(show bb=0∨bb=1 by omega)with rfl | rfl
              · have cm:((0:Nat) == 1)=false:=rfl;simp only[cm];clear cm;have hR:=zqw (nq:=nq) o.o aV.o SV.o.2 bX.o a4.o a5.o bM.o aN.o aR.o aU.o a2.o;have HR:=un hR;clear hR;go_wp2_with fail
                have h1:wrap64 ((k:Int)-1)=(k:Int)-1:=by have:=K.o;have:=aP.o;have:=zaP;unfold wrap64;omega
                exact⟨⟨k,us2,qs.set k q,by rw[h1],by have:=K.o;omega,ba.o,by rw[ZE];exact M.o,HR.o,aM.o⟩,by rw[h1];simp[intOf]⟩
              · have R:((1:Nat) == 1)=true:=rfl;simp only[R];clear R
                have cE:0<q:=by
                  rcases XF q with h | h
                  · subst h;have:=zo6 aV.o aU.o aR.o a5.o a2.o (Za 1) (by simp);omega
                  · exact h
                have dl:=un (zdN cE bQ.o)
                have dQ:y5.cell? ⟨G,k,none⟩=some (.int .u64 (q:Int)):=by
                  have h:=aM.o.cellQ (by rw[ZE];exact M.o) K.o;have e:wd (qs.set k q) k=q:=by unfold wd;rw[zcU _ _ _ _ a4.o,if_pos rfl]
                  rw[e]at h;exact h
                have dV:=aM.o.q.frozenAt k;clear cE;go_wp2_with fail
                rw[dl.o];have D6:=aM.o.setQ U.o k (q-1);have c1:=un D6;clear D6 dQ dV;generalize y5.setCell ⟨G,k,none⟩ (.int .u64 ((q-1:Nat):Int))=y6 at *
                have D7:DS w y6.drew H G gv d.length nq cu us2 ((qs.set k q).set k (q-1)) vs Av cv':=c1.o.step (zap y6 1);have bJ:=un D7;have ev:=D7.cellV;have dk:=un (D7.outC ba.o);have aG:=fun W=>zvl W H (d.length+1) cu k (k+vs.length+1) (IntKind.i64.wrap ((x:Int)+1)) b1.o (by omega) ap.o (by have:=ap.o;omega)
                rw[show k+vs.length+1-k=vs.length+1 by omega]at aG;clear D7;go_region_with (go_at_call 167;(with_reducible refine(back y6.drew y6.drew H (d.length+1) cu k (cu-k) us2 vs Av cv' dk.o bJ.o.sv b0.o aU.o a9.o bV.o).mono ?_);rintro e y7 ⟨us3,rfl,aB,hw8,hs8,cc,he8⟩;have a7:=un aB;have dz:=un hw8;have bS:=un hs8;have c7:=un he8;clear aB hw8 hs8 he8)
                all_goals
                  have D8:=bJ.o.ofOut U.o a7.o;have c5:=un D8;have hR:=zsu (c:=cc) o.o aV.o SV.o.2 bX.o a4.o a5.o bM.o aN.o aR.o aU.o a2.o bS.o dz.o c7.o;have HR:=un hR;clear hR D8 aG;go_wp2_with fail
                  have h1:wrap64 ((k:Int)-1)=(k:Int)-1:=by have:=K.o;have:=aP.o;have:=zaP;unfold wrap64;omega
                  exact⟨⟨k,us3,(qs.set k q).set k (q-1),by rw[h1],by have:=K.o;omega,by rw[bS.o.1];exact ba.o,by rw[ZE,ZE];exact M.o,HR.o.1,c5.o⟩,by rw[h1];simp[intOf]⟩
