/- Contracts and lemmas: Quot7. Conditions: as each says. -/
import Derived.Test.YtmflbanlgkdgeaaGreatDoorQuot5Zr
set_option linter.all false
set_option maxHeartbeats 10000000
set_option maxRecDepth 100000
namespace Go.Proofs.YtmflbanlgkdgeaaGreatDoor
open Go.RowKit Am
open Lib (hid)
attribute [local go_sem ↓] Go.wp_at_zero Go.wp_at_succ
namespace Qt
theorem zJH(s:Value)(xs:List Nat)(w:World)(a:SW w s xs):Calls Tryz.prog 100 #[.agg #[s]] w fun e w'=>e=.returned (.int .i64 (xs.length:Int))∧Below w.heap.size w w' :=
 (Nt.len s xs w a).mono fun e w' h=>⟨h.1,by rw[h.2];exact zae w _⟩
theorem zBr(s:Value)(xs:List Nat)(k x:Nat)(K:Int)(a:K=(k:Int))(w:World)(b:SW w s xs)(c:wd xs k=x):Calls Tryz.prog 126 #[.agg #[s],.int .i64 K] w fun e w'=>e=.returned (.int .u64 (x:Int))∧Below w.heap.size w w':=by
 subst a;exact(Nt.word s xs k (Int.natCast_nonneg _) w b).mono fun e w' h=>⟨by rw[h.1,←c];rfl,by rw[h.2];exact zae w _⟩
theorem zH4(x s:Nat)(c:x<18446744073709551616)(b:64-blen x=s)(w:World):Calls Tryz.prog 141 #[.int .u64 x] w fun e w'=>e=.returned (.int .i64 (s:Int))∧Below w.heap.size w w' :=
 (Word.lead x c w).mono fun e w' h=>by
  obtain⟨h1,n,a⟩:=h;exact⟨by rw[h1,b],by rw[a];exact zap w n⟩
theorem zvm(W:World)(g n c k:Nat)(K:Int)(b:K=(k:Int))(h1:k≤c)(a:0<c) :
  (Instr.slice 60 (.slice (some ⟨g,0,none⟩) n c) none (some (.int .i64 K)) none).run Tryz.prog W=.ok (.slice (some ⟨g,0,none⟩) k c) W:=by
 subst b;exact Pr.run_upto W g n c k h1 a
theorem ztS{V a W b:World}{f i:Value}{xs:List Nat}{H n m:Nat}(o:Below V.heap.size V a)(s:(wcells xs).length=m)(c:b.ownsRow H 139 1 i (n+2) (wcells (xs++[0,0])))(q:W.grownBy b f.ownBlock)
  (l:W.ownsRow H 139 1 f n (wcells xs)) (d:Below a.heap.size a W) (t:n+([0,0]:List Nat).length=n+2) (e:V.heap.size≤a.heap.size) (j:V.heap.size≤H) :
  ∃g p,i=.slice (some ⟨g,0,none⟩) (n+2) p∧n+2≤p∧V.heap.size≤g∧b.ownsRow H 139 1 (.slice (some ⟨g,0,none⟩) (n+2) p) (n+2) (wcells (xs++[0,0]))∧Below V.heap.size V b:=by
 obtain⟨g,p,rfl,r,hg⟩:=zxt c (by omega);refine⟨g,p,rfl,r,by omega,c,?_⟩;exact(o.trans (d.mono e)).grown q (Nat.le_trans e d.size) (fun k hk=>Nat.le_trans j (l.lt k hk).1)
theorem zDD(u2 u1 u0 v1 v0:Nat)(w:World)(a:u2≤v1)(h1:u1<18446744073709551616)(h0:u0<18446744073709551616)(c:9223372036854775808≤v1)(f:v1<18446744073709551616)(d:v0<18446744073709551616) :
  Calls Tryz.prog 143 #[.int .u64 (u2:Int),.int .u64 (u1:Int),.int .u64 (u0:Int),.int .u64 (v1:Int),.int .u64 (v0:Int)] w fun e w'=>∃q:Nat,e=.returned (.int .u64 (q:Int))∧GuessIs u2 u1 u0 v1 v0 q∧Below w.heap.size w w' :=
 (guess u2 u1 u0 v1 v0 w a h1 h0 c f d).mono fun e w' h=>by
  obtain⟨⟨q,h1,a⟩,n,b⟩:=h;exact⟨q,h1,a,by rw[b];exact zap w n⟩
theorem zr4(A B:OA)(m c m' c' a b:Nat)(w:World)(ha:zas w (.slice A m c) a)(hb:zas w (.slice B m' c') b)(Q:¬wlen b≤1)(hle:b≤a)(ct:wlen a+1≤LIM) :
    Calls Tryz.prog 136 #[.agg #[.slice A m c],.agg #[.slice B m' c']] w (zv4 w (a/b) (a%b) true):=by
  obtain⟨ys,hy,cm,cB,cx,hm⟩:=hb.words;subst hm;have HA:=hid ha;have bF:=hid hb;have HY:=hid hy;have eE:¬(ys.length:Int)≤1:=by omega
  have a5:=hid cx;have dg:=hid cB;clear ha hb hy cx cB;have W0:∃W,W=(((w.alloc (.cells #[.slice A m c] 62)).alloc (.cells #[.slice B ys.length c'] 62)).alloc (.cells #[.slice none 0 0] 62)).alloc (.cells #[.slice none 0 0] 62):=⟨_,rfl⟩
  obtain⟨W,J⟩:=W0;have hz:W.heap.size=w.heap.size+1+1+1+1:=by rw[J];simp
  have i:W.cell? ⟨w.heap.size,0,none⟩=some (.slice A m c):=by rw[J];exact cell_al (cell_al (cell_al (zax rfl rfl)))
  have k1:W.cell? ⟨w.heap.size+1,0,none⟩=some (.slice B ys.length c'):=by rw[J];exact cell_al (cell_al (zax (by simp) rfl))
  have r2:W.heap[w.heap.size+1+1]? = some (.cells #[.slice none 0 0] 62 (0,0)):=by rw[J];exact zak (zam (by simp))
  have r3:W.heap[w.heap.size+1+1+1]? = some (.cells #[.slice none 0 0] 62 (0,0)):=by rw[J];exact zam (by simp)
  have hB:Below w.heap.size w W:=by rw[J];exact(((zae w _).alloc (by simp) _).alloc (by simp;omega) _).alloc (by simp;omega) _
  have F:=hid (HA.out.below hB);have NB:=hid (bF.out.below hB);have I:=hid (HY.out.below hB);have R2:=hid r2;have P:=hid r3;have C:=hid hB;have O:=hid hz;clear r2 r3 hB hz HA bF HY;go_enter Tryz.func136,Tryz.ntmps136;go_wp2_with fail
  rw[←J];clear J;refine(Nt.len (.slice B ys.length c') ys _ I.out).mono ?_;rintro e w' ⟨rfl,rfl⟩;have i:=cell_al (ob:=.cells #[.slice B ys.length c'] 62) i;have k1:=cell_al (ob:=.cells #[.slice B ys.length c'] 62) k1;go_wp2_with fail
  refine(Nt.cmp A B m c ys.length c' a b _ (F.out.alloc _) (NB.out.alloc _)).mono ?_;rintro e l ⟨rfl,hb2⟩;have E:Below W.heap.size W l:=((zae W _).trans (hb2.mono (by simp)))
  have i:=zab hb2 i;have k1:=zab hb2 k1;have F:=hid (F.out.below E);have NB:=hid (NB.out.below E);have I:=hid (I.out.below E);have R2:=hid (zad E R2.out);have P:=hid (zad E P.out);have C:=hid (C.out.trans (E.mono (by have:=O.out;omega)));have O:=hid (show w.heap.size+4≤l.heap.size by have:=O.out;have:=E.size;omega);clear hb2 E
  have d1:¬ze9 (a:Int) (b:Int)<0:=by
    rcases Nat.lt_or_ge b a with h | h
    · rw[zea (by omega)];omega
    · rw[zgN (by omega)];omega
  obtain⟨cv,aE⟩:∃cv,cv=ze9 (a:Int) (b:Int):=⟨_,rfl⟩
  rw[←aE]at d1 ⊢;clear aE;go_wp2_with fail
  obtain⟨top,aH⟩:∃top,wd ys (ys.length-1)=top:=⟨_,rfl⟩
  obtain⟨s,hs⟩:∃s,64-blen top=s:=⟨_,rfl⟩
  have bV:=hid aH;have bS:=hid hs;obtain⟨L,bf⟩:∃L,ys.length=L+1:=⟨ys.length-1,by have:=a5.out;omega⟩
  have U:=hid (show(b*2^s<B64^(L+1)∧2^63*B64^L≤b*2^s)∧1≤L∧L+1≤wlen a by
    have h0:0<top:=by
      rw[←aH];exact Nat.pos_of_ne_zero (zoq cm (by omega))
    have h1:=zqo (L:=L) (top:=top) (s:=s) I.out.2 bf (by rw[←aH,bf];rfl) h0 hs;rw[dg.out]at h1;have h2:=a5.out;have h3:=zco hle;exact⟨h1,by omega,by omega⟩)
  clear bf;have dv:=hid (show top<18446744073709551616 by rw[←aH];exact zdM I.out.2 _);have dX:2≤ys.length:=by have:=a5.out;omega
  have da:=hid dX;have eF:ys.length≤9223372036854775807:=I.out.len_le;have cd:IntKind.i64.wrap ((ys.length:Int)-1)=((ys.length-1:Nat):Int):=by rw[IntWalk.i64_in _ (by omega)];omega
  have c9:=hid cd;have aN:=hid (show wlen a≤LIM by omega);have bM:=hid ct;have dc:=hid hle;clear aH hs cd ct hle Q;have HS:=hid (show ∀w',Below l.heap.size l w'→((w'.cell? ⟨w.heap.size,0,none⟩=some (.slice A m c)∧w'.cell? ⟨w.heap.size+1,0,none⟩=some (.slice B ys.length c'))∧Below l.heap.size l w')from fun w' h=>⟨⟨zab h i,zab h k1⟩,h⟩);go_cut[10] (fun en wr=>en=.int .i64 (s:Int)∧Below l.heap.size l wr)
  case first =>
    go_region_held3 (fun w'=>((w'.cell? ⟨w.heap.size,0,none⟩=some (.slice A m c)∧w'.cell? ⟨w.heap.size+1,0,none⟩=some (.slice B ys.length c'))∧Below l.heap.size l w'))
      ((refine HS.out _ ?_;repeat(first | exact Below.refl _ _ | exact(by assumption:_∧Below _ _ _).2 | with_reducible refine bdrew ?_ | with_reducible refine al2 ?_ _ | with_reducible refine set2 ?_ (by omega) | with_reducible refine zc1 ?_ (by assumption))))
      (first
        | (go_at_call 100;(with_reducible refine(zJH (.slice B ys.length c') ys _ (I.out.below (by assumption:_∧Below _ _ _).2)).mono ?_);rintro e u1 ⟨rfl,Q⟩;have ee:=Q.size;(try simp at ee);have eG:l.heap.size≤u1.heap.size:=(by omega))
        | (go_at_call 126;(with_reducible refine(zBr (.slice B ys.length c') ys (ys.length-1) top (IntKind.i64.wrap ((ys.length:Int)-1)) c9.out _ (I.out.below (by assumption:_∧Below _ _ _).2) bV.out).mono ?_);rintro e u2 ⟨rfl,hb2⟩;have ef:=hb2.size;(try simp at ef);have eH:l.heap.size≤u2.heap.size:=(by omega))
        | (go_at_call 141;(with_reducible refine(zH4 top s dv.out bS.out _).mono ?_);rintro e u3 ⟨rfl,hb3⟩;have eg:=hb3.size;(try simp at eg);have eI:l.heap.size≤u3.heap.size:=(by omega)))
    all_goals
      go_wp2;go_meet
      case rel=>exact⟨rfl,(by assumption:_∧Below l.heap.size l _).2⟩
  case rest =>
    obtain⟨rfl,g⟩:=hcut;rename World=>w3
    have i:=zab g i;have k1:=zab g k1;have F:=hid (F.out.below g);have NB:=hid (NB.out.below g);have I:=hid (I.out.below g);have R2:=hid (zad g R2.out);have P:=hid (zad g P.out);have C:=hid (C.out.trans (g.mono (by have:=O.out;omega)));have O:=hid (show w.heap.size+4≤w3.heap.size by have:=O.out;have:=g.size;omega);clear g HS
    have cI:s<64:=by
      rw[←bS.out]
      have h0:0<top:=by
        rw[←bV.out];exact Nat.pos_of_ne_zero (zoq cm (by have:=da.out;omega))
      have:=zhl h0;omega
    have av:=hid cI;have cw:wlen b≤LIM:=Nat.le_trans (zco dc.out) aN.out;have db:=hid cw;clear cI cw;go_wp2_with fail
    refine(Nt.shl B ys.length c' b s _ NB.out av.out db.out).mono ?_;rintro e S ⟨Av,mv,cv',rfl,hv4,hb4⟩;have cU:=cell_al (ob:=.cells #[.slice Av mv cv'] 62) (zab hb4 i);have bX:=hid (hv4.alloc (.cells #[.slice Av mv cv'] 62));have E:Below w3.heap.size w3 (S.alloc (.cells #[.slice Av mv cv'] 62)):=hb4.trans (zae S _ |>.mono hb4.size);have b3:=hid (F.out.below E);have b2:=hid hb4.size;have HV:=hid E;clear hv4 hb4 E k1;go_wp2_with fail
    refine(Nt.shl A m c a s _ b3.out av.out aN.out).mono ?_;rintro e y ⟨As,ms,cs,rfl,hs5,hb5⟩;have aC:Below w3.heap.size w3 (y.alloc (.cells #[.slice As ms cs] 62)):=(HV.out.trans (hb5.mono HV.out.size)).trans ((zae y _).mono (Nat.le_trans HV.out.size hb5.size));have aX:Below (S.alloc (.cells #[.slice Av mv cv'] 62)).heap.size (S.alloc (.cells #[.slice Av mv cv'] 62)) (y.alloc (.cells #[.slice As ms cs] 62)):=hb5.trans ((zae y _).mono hb5.size)
    have i:(y.alloc (.cells #[.slice As ms cs] 62)).cell? ⟨w.heap.size,0,none⟩=some (.slice A m c):=zab aX cU;have kv:(y.alloc (.cells #[.slice As ms cs] 62)).heap[S.heap.size]? = some (.cells #[.slice Av mv cv'] 62 (0,0)):=zad aX (zam rfl);have ks:(y.alloc (.cells #[.slice As ms cs] 62)).cell? ⟨y.heap.size,0,none⟩=some (.slice As ms cs):=zax rfl rfl;have F:=hid (F.out.below aC);have NV:=hid (bX.out.below aX);have NS:=hid (hs5.alloc (.cells #[.slice As ms cs] 62));have R2:=hid (zad aC R2.out)
    have P:=hid (zad aC P.out);have C:=hid (C.out.trans (aC.mono (by have:=O.out;omega)));have dC:=hid (show w.heap.size+4≤S.heap.size∧S.heap.size<y.heap.size∧(y.alloc (.cells #[.slice As ms cs] 62)).heap.size=y.heap.size+1 by have:=O.out;have:=b2.out;have:=hb5.size;simp at this;simp;omega);have KV:=hid kv;clear cU aC aX hb5 hs5 kv bX b3 HV NB I O b2;go_wp2_with fail
    generalize hq1:S.heap.size=gv at *
    generalize hq2:y.heap.size=gs at *
    generalize y.alloc (.cells #[.slice As ms cs] 62)=V at *
    clear hq1 hq2
    have bY:=hid (show ∀k,(Value.slice Av mv cv').ownBlock=some k→k<V.heap.size by
      obtain⟨zs,hz,_⟩:=NV.out;exact fun k hk=>hz.block hk)
    obtain⟨d,cJ,d0,d8,aD,d5⟩:=F.out.words;subst d5;obtain⟨xs,cK,d3,cA,bo,d7⟩:=NS.out.words;subst d7
    have cR:xs.length≤d.length+1:=by
      rw[bo,aD];have h1:=zdy a (2^s);have h2:wlen (2^s)≤1:=zdl (Nat.lt_of_le_of_lt (Nat.pow_le_pow_right (show 0<2 by decide) (Nat.le_of_lt_succ av.out)) (by decide));omega
    have cS:d.length≤xs.length:=by
      rw[bo,aD];exact zco (Nat.le_mul_of_pos_right a (Nat.pow_pos (by decide)))
    have ck:d.length≤LIM:=by rw[aD];exact aN.out
    have SA:=hid cK;have SN:=hid cJ;have aJ:=hid aD;have df:=hid cA;have dB:=hid cR;have ba:=hid cS;have a0:=hid ck;have SL:=hid (show xs.length≤LIM by have:=bM.out;omega);have dY:d.length≤9223372036854775800:=by have:=zaP;omega
    have cY:=hid (show IntKind.i64.wrap ((d.length:Int)+1)=((d.length+1:Nat):Int)by rw[IntWalk.i64_in _ (by omega)];omega);clear cJ d0 d8 aD cK d3 cA bo cR cS ck;have ej:V.drew.cell? ⟨w.heap.size,0,none⟩=some (.slice A d.length c):=i;have ei:(V.alloc (.cells #[.int .u64 0,.int .u64 0] 139)).drew.cell? ⟨w.heap.size,0,none⟩=some (.slice A d.length c):=cell_al i;have el:V.drew.cell? ⟨gs,0,none⟩=some (.slice As xs.length cs):=ks
    have ek:(V.alloc (.cells #[.int .u64 0,.int .u64 0] 139)).drew.cell? ⟨gs,0,none⟩=some (.slice As xs.length cs):=cell_al ks;have bg:Below V.heap.size V (V.alloc (.cells #[.int .u64 0,.int .u64 0] 139)).drew:=(zae V _).drew;go_cut[15] (fun eo wr=>∃(H cu:Nat),eo=.slice (some ⟨H,0,none⟩) (d.length+1) cu∧d.length+1≤cu∧V.heap.size≤H∧wr.ownsRow H 139 1 (.slice (some ⟨H,0,none⟩) (d.length+1) cu) (d.length+1) (wcells ((xs++[0,0]).take (d.length+1)))∧Wds xs∧Below V.heap.size V wr)
    case first =>
      go_region_law (first
        | (refine znT (by rfl) 127 Tryz.func127 (by kernel_rfl) (by rfl) _ _ (by rfl) _ (by rfl) (Nt.wordsF As xs.length cs xs _ (by first | exact SA.out.drew | exact (SA.out.alloc _).drew) SL.out) ?_;rintro e w6 ⟨A6,m6,c6,rfl,hO6,hW6,hb6⟩;refine ⟨_,rfl,?_⟩;
           have au:=hid hO6;have bC:=hid hb6.size;have cZ:=hid (show V.heap.size≤w6.heap.size from(by first | exact Nat.le_trans (by simp) hb6.size));have dx:=hid hW6;have bB:=hid (show Below V.heap.size V w6 by first | exact(zap V 1).trans (hb6.mono (by first | exact Nat.le_refl _ | (simp;done))) | exact bg.trans (hb6.mono bg.size));
           have eh:=zab bB.out i;have eN:=cell_al (ob:=.cells #[.int .u64 0,.int .u64 0] 139) eh;try(have L6:∀j u,(wcells [0,0])[j]? = some u→w6.cell? ((⟨V.heap.size,0,none⟩:Addr).add j)=some u:=fun j u hu=>(Below.cell hb6 (World.block_lt_of_cell? (V.alloc (.cells #[.int .u64 0,.int .u64 0] 139)) _ (zH5 V V.heap.size rfl j u hu))).trans (zH5 V V.heap.size rfl j u hu)))
        | ((refine zo4 (by rfl) _ _ (by rfl) (by first | exact au.out.alloc _ | exact au.out) (by rfl) (by rfl) (xs:=[0,0]) (by rfl) (by first | exact zH5 _ _ (by rfl) | exact L6) (by have:=SL.out;have:=zaP;simp;omega) (by first | exact bC.out | exact Nat.le_trans bC.out (by simp)) ?_;rintro v7 w7 cg cp;have hq:=ztS bB.out au.out.1 cg cp (by first | exact au.out.alloc _ | exact au.out) (by first | exact zae _ _ | exact Below.refl _ _) (by rfl) cZ.out (by first | exact Nat.le_refl _ | simp);obtain⟨H7,p7,rfl,eC,ca,aA,aY⟩:=hq;have a6:=hid aA;have bD:=hid aY;have c8:=hid ca;have eO:=zab aY i;have dJ:=hid (SN.out.below aY);have cC:d.length+1≤p7:=(by have:=ba.out;omega);have eD:=fun W=>zvm W H7 (xs.length+2) p7 (d.length+1) (IntKind.i64.wrap ((d.length:Int)+1)) cY.out cC (by omega);clear cg cp aA aY ca))
        | (refine znT (by rfl) 100 Tryz.func100 (by kernel_rfl) (by rfl) _ _ (by rfl) _ (by rfl) (zJH (.slice A d.length c) d _ dJ.out) ?_;rintro e w8 ⟨rfl,hb8⟩;refine⟨_,rfl,?_⟩;have bE:=hid hb8;clear hb8))
      all_goals
        go_wp2;go_meet
        case rel=>exact⟨H7,p7,rfl,cC,c8.out,zxv (zfF a6.out bE.out) (by have:=ba.out;omega),dx.out,bD.out.trans (bE.out.mono bD.out.size)⟩
    case rest =>
      obtain⟨H,cu,rfl,d2,cb,hO,ch,g⟩:=hcut;rename World=>Y
      have KV:=hid (zad g KV.out);have i:=zab g i;have F:=hid (SN.out.below g);have NV:=hid (NV.out.below g);have R2:=hid (zad g R2.out);have P:=hid (zad g P.out);have C:=hid (C.out.trans (g.mono C.out.size));have HO:=hid hO;have dA:=hid ch;have ds:=hid (show V.heap.size≤H∧V.heap.size≤Y.heap.size by exact⟨cb,g.size⟩);clear g hO ch cb SA SN NS ej ei el ek ks bg;obtain⟨vs,bl,aE,bi,ec,d6⟩:=NV.out.words;subst d6;have cz:=zxq bl.2 aE bi U.out.1.1 U.out.1.2;have SV:=hid bl;have aj:=hid cz
      have aS:=hid bi;have bj:=zA6 ba.out dB.out;rw[df.out]at bj;have cP:Wds ((xs++[0,0]).take (d.length+1)):=(dA.out.append (by intro z hz;simp at hz;subst hz;decide)).take _;generalize (xs++[0,0]).take (d.length+1)=us at *
      have aP:=hid bj;have dz:=hid cP;clear bl aE bi ec cz bj cP;have em:=zac KV.out 0;simp only[List.getElem?_toArray,List.getElem?_cons_zero]at em;go_wp2_with fail
      refine(Nt.len (.slice Av vs.length cv') vs _ SV.out).mono ?_;rintro e w' ⟨rfl,rfl⟩;have i:=cell_al (ob:=.cells #[.slice Av vs.length cv'] 62) i;go_wp2_with fail
      refine(Nt.len (.slice A d.length c) d _ (F.out.alloc _)).mono ?_;rintro e w' ⟨rfl,rfl⟩;have ed:vs.length≤d.length:=by have:=aj.out.1;have:=U.out.2.2;have:=aJ.out;omega
      obtain⟨nq,d9⟩:∃nq,nq=d.length-vs.length+1:=⟨_,rfl⟩
      have ar:=hid (show nq+vs.length=d.length+1 by omega);have ce:wrap64 (wrap64 ((d.length:Int)-(vs.length:Int))+1)=(nq:Int):=by unfold wrap64;omega
      have dd:=hid ce;have ea:nq≤16*LIM:=by have:=a0.out;have:=zaP;omega
      have aO:=hid ea;clear d9 ce ed;have ci:Below Y.heap.size Y ((Y.alloc (.cells #[.slice Av vs.length cv'] 62)).alloc (.cells #[.slice A d.length c] 62)):=(zae Y _).alloc (by simp) _;generalize (Y.alloc (.cells #[.slice Av vs.length cv'] 62)).alloc (.cells #[.slice A d.length c] 62)=Z at *
      have X:=hid ci;clear ci i;go_wp2_with (at_make;go_must (refine zdz rfl _ _ rfl nq _ rfl rfl dd.out aO.out Z.heap.size rfl ?_))
      intro w1 ho
      have hD:DS w w1 H Z.heap.size gv d.length nq cu us (List.replicate nq 0) vs Av cv' :=
        ⟨zfF (zfF HO.out X.out) ho.bel,ho.own,zad ho.bel (zad X.out KV.out),(SV.out.below X.out).below ho.bel,zad ho.bel (zad X.out R2.out),zad ho.bel (zad X.out P.out),(C.out.trans (X.out.mono C.out.size)).trans (ho.bel.mono (Nat.le_trans C.out.size X.out.size))⟩
      have hF:DF w H Z.heap.size gv (.slice Av vs.length cv'):=by
        have h1:=ds.out;have h2:=(HO.out.lt H rfl).2;have h3:=X.out.size;have h4:=dC.out;exact⟨by omega,by omega,by omega,fun e=>by have:=bY.out _ e;omega,fun e=>by have:=bY.out _ e;omega⟩
      have HD:=hid hD;have T:=hid hF;clear ho hD hF;generalize Z.heap.size=G at *
      have hI:LdInv (a*2^s) (nval vs) us (List.replicate nq 0) nq:=by
        refine⟨dz.out,Wds.replicate nq,by rw[zbK,aP.out.1];simp,?_,fun j _=>by rw[List.getD_eq_getElem?_getD,List.getElem?_replicate];split<;>rfl⟩;have h1:=zw3 (us:=us) (vs:=vs) (a:=a) (s:=s) (n:=d.length) (L:=L) aP.out.2 aP.out.1 (by rw[aJ.out];exact zfD a) av.out (by have:=U.out.2.2;have:=aJ.out;omega) (by rw[aS.out];exact U.out.1.2);rw[show nq=d.length-L by have:=ar.out;have:=aj.out.1;omega];exact h1
      have o:=hid hI;clear hI;go_wp2_with fail
      go_loopw [18] (fun kv wr=>∃(k:Nat) (f qs:List Nat),kv=.int .i64 ((k:Int)-1)∧k≤nq∧f.length=d.length+1∧qs.length=nq∧LdInv (a*2^s) (nval vs) f qs k∧DS w wr H G gv d.length nq cu f qs vs Av cv')
        (fun kv _=>(intOf kv+1).toNat)
      case atStart =>
        have h1:wrap64 ((nq:Int)-1)=(nq:Int)-1:=by have:=aO.out;have:=zaP;unfold wrap64;omega
        exact⟨nq,us,List.replicate nq 0,by rw[h1],Nat.le_refl _,aP.out.2,List.length_replicate,o.out,HD.out⟩
      case round =>
        obtain⟨k,f,qs,rfl,hk,cO,cG,hI,hD⟩:=hrel;have o:=hid hI;have HD:=hid hD;have N:=hid cO;have M:=hid cG;clear hI hD cO cG;rcases k with _ | k
        · have cn:=unshift (a:=a) (b:=b) (s:=s) (q:=nval qs) (r:=nval f) (by have:=o.out.eq;rw[aS.out]at this;exact this) (by have:=o.out.lt;rw[List.drop_zero,aS.out]at this;exact this);have bJ:=hid cn
          have cH:wlen (nval f)≤LIM:=by
            have h1:=o.out.lt;rw[List.drop_zero,aS.out]at h1;have h2:wlen (nval f)≤L+1:=zaZ (Nat.lt_trans h1 U.out.1.1);have:=U.out.2.2;have:=aN.out;omega
          have dr:=hid cH;clear cn cH;go_wp2_with fail
          refine(Nt.of _ qs _ (HD.out.swQ M.out o.out.wq).reads (by rw[M.out];have:=ar.out;have:=aj.out.1;have:=a0.out;omega)).mono ?_;rintro e l ⟨A2,m2,c2,rfl,hq2,hb2⟩;have aK:=hid (HD.out.step hb2);have dl:=hid hq2;clear hq2 hb2;go_wp2_with fail
          refine(Nt.of _ f _ (aK.out.swU N.out o.out.wu).reads (by rw[N.out,aJ.out];exact bM.out)).mono ?_;rintro e w3 ⟨A3,m3,c3,rfl,hr3,hb3⟩;have aq:=hid (aK.out.step hb3);have dm:=hid (dl.out.below hb3);have dp:=hid hr3;clear hr3 hb3;go_wp2_with fail
          refine(Nt.shr A3 m3 c3 (nval f) s _ dp.out av.out dr.out).mono ?_;rintro e S ⟨A4,m4,c4,rfl,aG,hb4⟩;have D:=hid (aq.out.step hb4);have dn:=hid (dm.out.below hb4);have dq:=hid aG;clear aG hb4;have g3:=zac D.out.r2 0;have g4:=zag D.out.r2 0;have g5:=zac D.out.r3 0;have g6:=zag D.out.r3 0;simp only[List.getElem?_toArray,List.getElem?_cons_zero]at g3 g5;go_wp2
          refine bodyPost_ret (v:=.tuple #[.agg #[.slice A2 m2 c2],.agg #[.slice A4 m4 c4],.bool true]) (by simp[results,Tryz.results136,go_sem,g3,g5]) rfl ?_;have cE:=dn.out;have aG:=dq.out;rw[bJ.out.1]at cE;rw[bJ.out.2]at aG;exact⟨_,_,_,_,_,_,rfl,zas.setBox (zas.setBox cE (Box.of D.out.r2)) (Box.set (Box.of D.out.r3)),zas.setBox (zas.setBox aG (Box.of D.out.r2)) (Box.set (Box.of D.out.r3)),bsc (bsc D.out.bel)⟩
        · have J:=zvB o.out.wu SV.out.2 o.out.lt (by have:=N.out;have:=ar.out;omega);have aU:=hid J;have HK:=hid (show k+vs.length≤d.length by have:=ar.out;omega);have e1:((k+1:Nat):Int)-1=(k:Int):=by omega
          simp only[e1];clear J e1;go_wp2_with fail
          have bn:2≤vs.length:=by have:=aj.out.1;have:=U.out.2.1;omega
          have dZ:=dY;obtain⟨x,bm⟩:∃t,t=k+vs.length:=⟨_,rfl⟩
          obtain⟨t1,cM⟩:∃t,t=k+vs.length-1:=⟨_,rfl⟩
          obtain⟨t0,cL⟩:∃t,t=k+vs.length-2:=⟨_,rfl⟩
          obtain⟨R,aZ⟩:∃t,t=vs.length-1:=⟨_,rfl⟩
          obtain⟨m0,cy⟩:∃t,t=vs.length-2:=⟨_,rfl⟩
          have d4:=HK.out;have q2:x<d.length+1:=by omega
          have q1:t1<d.length+1:=by omega
          have q0:t0<d.length+1:=by omega
          have qk:k<nq:=by have:=ar.out;omega
          have W2:=hid (show IntKind.i64.wrap ((k:Int)+(vs.length:Int))=(x:Int)by rw[IntWalk.i64_in _ (by omega)];omega);have W1:=hid (show IntKind.i64.wrap ((x:Int)-1)=(t1:Int)by rw[IntWalk.i64_in _ (by omega)];omega);have W0:=hid (show IntKind.i64.wrap ((x:Int)-2)=(t0:Int)by rw[IntWalk.i64_in _ (by omega)];omega);have X1:=hid (show IntKind.i64.wrap ((vs.length:Int)-1)=(R:Int)by rw[IntWalk.i64_in _ (by omega)];omega)
          have X0:=hid (show IntKind.i64.wrap ((vs.length:Int)-2)=(m0:Int)by rw[IntWalk.i64_in _ (by omega)];omega);have co:wd f x≤wd vs R:=by rw[bm,aZ];exact aU.out.top o.out.wu SV.out.2 bn
          have cr:9223372036854775808≤wd vs R:=by rw[aZ,aj.out.1];exact aj.out.2
          have c7:=hid co;have bK:=hid cr;have bT:=hid bm;have du:=hid cM;have dt:=hid cL;have bN:=hid aZ;have de:=hid cy;have bW:=hid bn;have K:=hid qk;clear co cr;have D0:DS w wr.drew H G gv d.length nq cu f qs vs Av cv':=HD.out.step (zap wr 1);have bG:=hid D0;have dS:=D0.cellU N.out q2;have dR:=D0.cellU N.out q1;have dQ:=D0.cellU N.out q0;have cV:=D0.cellV;have i2:(x:Int)<(d.length:Int)+1:=by omega
          have i1:(t1:Int)<(d.length:Int)+1:=by omega
          have i0:(t0:Int)<(d.length:Int)+1:=by omega
          have ik:(k:Int)<(nq:Int):=by omega
          have dI:=hid q2;have et:=hid q1;have es:=hid q0;clear D0 bm cM cL aZ cy bn d4 q2 q1 q0 qk dZ;have eS:=W2.out;have eR:=W1.out;have eQ:=W0.out;have eW:=X1.out;have eV:=X0.out;have dF:=hid (zdM o.out.wu t1);have dE:=hid (zdM o.out.wu t0);have dH:=hid (zdM SV.out.2 R);have dG:=hid (zdM SV.out.2 m0);go_cut[] (fun er=>∃(q:Nat),GuessIs (wd f x) (wd f t1) (wd f t0) (wd vs R) (wd vs m0) q∧DS w er H G gv d.length nq cu f (qs.set k q) vs Av cv')
          case first =>
            have eA:H<G:=T.out.hg;have eB:gv<G:=Nat.lt_trans T.out.gh T.out.hg
            go_region_held3 (fun w'=>w'.cell? ⟨H,x,none⟩=some (.int .u64 ((wd f x:Nat):Int))∧w'.cell? ⟨H,t1,none⟩=some (.int .u64 ((wd f t1:Nat):Int))∧w'.cell? ⟨H,t0,none⟩=some (.int .u64 ((wd f t0:Nat):Int))∧w'.cell? ⟨gv,0,none⟩=some (.slice Av vs.length cv'))
              (((try go_split_ands);(try simp only[World.cell?_drew]);(repeat' apply And.intro)<;>(first | assumption | exact zab Q (by assumption) | exact zab hb2 (by assumption) | exact zab hb3 (by assumption) | exact cell_set (by omega) (by assumption))))
              (first
                | (go_at_call 126;(with_reducible refine(zBr (.slice Av vs.length cv') vs R (wd vs R) (R:Int) rfl _ bG.out.sv rfl).mono ?_);rintro e y1 ⟨rfl,Q⟩;have bH:=hid (bG.out.step Q))
                | (go_at_call 126;(with_reducible refine(zBr (.slice Av vs.length cv') vs m0 (wd vs m0) (m0:Int) rfl _ bH.out.sv rfl).mono ?_);rintro e y2 ⟨rfl,hb2⟩;have aK:=hid (bH.out.step hb2))
                | (go_at_call 143;(with_reducible refine(zDD (wd f x) (wd f t1) (wd f t0) (wd vs R) (wd vs m0) _ c7.out dF.out dE.out bK.out dH.out dG.out).mono ?_);rintro e y3 ⟨q,rfl,ak,hb3⟩;have aq:=hid (aK.out.step hb3);have aM:=hid ak;have cQ:=aq.out.cellQ M.out K.out;have fQ:=aq.out.q.frozenAt k;clear ak))
            all_goals
              go_wp2;go_meet
              case rel=>exact⟨q,aM.out,aq.out.setQ T.out k q⟩
          case rest =>
            obtain⟨q,ak,b9⟩:=hcut;rename World=>y4
            have cq:GuessIs (wd f (k+vs.length)) (wd f (k+vs.length-1)) (wd f (k+vs.length-2)) (wd vs (vs.length-1)) (wd vs (vs.length-2)) q:=by
              have:=ak;rw[bT.out,du.out,dt.out,bN.out,de.out]at this;exact this
            have aM:=hid cq;have cF:q<18446744073709551616:=ak.lt;have bP:=hid cF;have D4:DS w y4.drew H G gv d.length nq cu f (qs.set k q) vs Av cv':=b9.step (zap y4 1);have D:=hid D4
            have dO:y4.drew.cell? ⟨G,k,none⟩=some (.int .u64 (q:Int)):=by
              have h:=D4.cellQ (by rw[List.length_set];exact M.out) K.out;have e:wd (qs.set k q) k=q:=by unfold wd;rw[zcU _ _ _ _ (by rw[M.out];exact K.out),if_pos rfl]
              rw[e]at h;exact h
            have dU:=D4.cellV;have di:=hid (D4.outC N.out);have ao:=hid (show k+vs.length+1≤cu by have:=HK.out;omega);have b0:=hid (show IntKind.i64.wrap ((x:Int)+1)=((k+vs.length+1:Nat):Int)by have:=dI.out;have:=bT.out;rw[IntWalk.i64_in _ (by omega)];omega);have aF:=fun W=>zvl W H (d.length+1) cu k (k+vs.length+1) (IntKind.i64.wrap ((x:Int)+1)) b0.out (by omega) ao.out (by have:=ao.out;omega)
            rw[show k+vs.length+1-k=vs.length+1 by omega]at aF;have a8:=hid (show k+vs.length<d.length+1 by have:=HK.out;omega);have dw:=hid (show vs.length+1≤cu-k by have:=ao.out;omega);have bU:=hid (show d.length+1≤2*LIM by have:=a0.out;have:=zaP;omega);have bZ:=hid T.out.vh;clear ak cq b9 D4 cF dS dR dQ cV d2;go_wp2_with fail
            go_region_with (go_at_call 144;(with_reducible refine(take y4.drew y4.drew H (d.length+1) cu k (cu-k) q f vs Av cv' di.out D.out.sv bZ.out o.out.wu bP.out a8.out dw.out bU.out).mono ?_);rintro e y5 ⟨bb,us2,rfl,hbb,hO5,hw5,hs5,he5⟩;have dh:=hid hO5;have aT:=hid hw5;have aQ:=hid hs5;have a1:=hid he5;clear hO5 hw5 hs5 he5)
            all_goals
              have D5:=D.out.ofOut T.out dh.out;have aL:=hid D5;have a9:=hid (show us2.length=d.length+1 by rw[aQ.out.1];exact N.out);have a3:=hid (show k<qs.length by rw[M.out];exact K.out);have a4:=hid (show k≤f.length by rw[N.out];have:=a8.out;omega);have bL:=hid (show 9223372036854775808≤wd vs (vs.length-1)by rw[←bN.out];exact bK.out);clear D5 dO dU aF;rcases(show bb=0∨bb=1 by omega)with rfl | rfl
              · have cl:((0:Nat) == 1)=false:=rfl;simp only[cl];clear cl;have hR:=zqw (nq:=nq) o.out aU.out SV.out.2 bW.out a3.out a4.out bL.out aM.out aQ.out aT.out a1.out;have HR:=hid hR;clear hR;go_wp2_with fail
                have h1:wrap64 ((k:Int)-1)=(k:Int)-1:=by have:=K.out;have:=aO.out;have:=zaP;unfold wrap64;omega
                exact⟨⟨k,us2,qs.set k q,by rw[h1],by have:=K.out;omega,a9.out,by rw[List.length_set];exact M.out,HR.out,aL.out⟩,by rw[h1];simp[intOf]⟩
              · have Q:((1:Nat) == 1)=true:=rfl;simp only[Q];clear Q
                have cD:0<q:=by
                  rcases Nat.eq_zero_or_pos q with h | h
                  · subst h;have:=zo6 aU.out aT.out aQ.out a4.out a1.out (Nat.le_refl 1) (by simp);omega
                  · exact h
                have dk:=hid (zdN cD bP.out)
                have dP:y5.cell? ⟨G,k,none⟩=some (.int .u64 (q:Int)):=by
                  have h:=aL.out.cellQ (by rw[List.length_set];exact M.out) K.out;have e:wd (qs.set k q) k=q:=by unfold wd;rw[zcU _ _ _ _ a3.out,if_pos rfl]
                  rw[e]at h;exact h
                have dV:=aL.out.q.frozenAt k;clear cD;go_wp2_with fail
                rw[dk.out];have D6:=aL.out.setQ T.out k (q-1);have c0:=hid D6;clear D6 dP dV;generalize y5.setCell ⟨G,k,none⟩ (.int .u64 ((q-1:Nat):Int))=y6 at *
                have D7:DS w y6.drew H G gv d.length nq cu us2 ((qs.set k q).set k (q-1)) vs Av cv':=c0.out.step (zap y6 1);have bI:=hid D7;have ev:=D7.cellV;have dj:=hid (D7.outC a9.out);have aF:=fun W=>zvl W H (d.length+1) cu k (k+vs.length+1) (IntKind.i64.wrap ((x:Int)+1)) b0.out (by omega) ao.out (by have:=ao.out;omega)
                rw[show k+vs.length+1-k=vs.length+1 by omega]at aF;clear D7;go_region_with (go_at_call 145;(with_reducible refine(back y6.drew y6.drew H (d.length+1) cu k (cu-k) us2 vs Av cv' dj.out bI.out.sv bZ.out aT.out a8.out bU.out).mono ?_);rintro e y7 ⟨us3,rfl,aA,hw8,hs8,cc,he8⟩;have a6:=hid aA;have dy:=hid hw8;have bR:=hid hs8;have c5:=hid he8;clear aA hw8 hs8 he8)
                all_goals
                  have D8:=bI.out.ofOut T.out a6.out;have c1:=hid D8;have hR:=zsu (c:=cc) o.out aU.out SV.out.2 bW.out a3.out a4.out bL.out aM.out aQ.out aT.out a1.out bR.out dy.out c5.out;have HR:=hid hR;clear hR D8 aF;go_wp2_with fail
                  have h1:wrap64 ((k:Int)-1)=(k:Int)-1:=by have:=K.out;have:=aO.out;have:=zaP;unfold wrap64;omega
                  exact⟨⟨k,us3,(qs.set k q).set k (q-1),by rw[h1],by have:=K.out;omega,by rw[bR.out.1];exact a9.out,by rw[List.length_set,List.length_set];exact M.out,HR.out.1,c1.out⟩,by rw[h1];simp[intOf]⟩
