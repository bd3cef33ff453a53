/- Contracts and lemmas: DuB Tb5 Sv Law3 Cert1. Conditions: as each says. -/
import Derived.Test.YtbdhheepakmgkaaGreatBasTZc
import Derived.Test.YtbdhheepakmgkaaGreatBoolsZc
import Derived.Test.YtbdhheepakmgkaaGreatVec7Zc
set_option linter.all false
set_option maxHeartbeats 4000000
set_option maxRecDepth 100000
namespace Go.Proofs.YtbdhheepakmgkaaGreat
open Go.RowKit Am
open Lib (hid)
attribute [local go_sem ↓] Go.wp_at_zero Go.wp_at_succ
section
variable {W0 w:World} {H q:Nat} {rA:OA} {rc:Nat} {lA:List Value} {bA:OA} {bc_:Nat} {kA:OA} {kc:Nat} {eA:OA} {ec m N S own:Nat} {A:List (List Rat)} {b c:List Rat} {left:List Int}
  {tA:OA} {tc:Nat} {cols:List Nat}
end
def zsF (N:Nat) (cols:List Nat) (xs:List Rat):Nat→List Rat
  | 0=>List.replicate N 0
  | k+1=>(zsF N cols xs k).set (cols.getD k 0) (el xs k)
theorem zh2(N:Nat)(cols:List Nat)(xs:List Rat):∀k,(zsF N cols xs k).length=N
 | 0=>by simp[zsF]
 | k+1=>by rw[zsF,List.length_set];exact zh2 N cols xs k
theorem zvi{m N:Nat}{A:List (List Rat)}{cols:List Nat}(d:Basis m N A cols)(xs:List Rat):∀k,k≤m→∀j,j<N→el (zsF N cols xs k) j=pt k (fun k=>cols.getD k 0) (el xs) j
 | 0,_,j,hj=>by rw[zsF,zrm];rfl
 | k+1,hk,j,hj=>by
  have g:=zvi d xs k (by omega) j hj;have f:=d.lt k (by omega);rw[zsF,ziZ (by rw[zh2];exact f),g];by_cases e:cols.getD k 0=j
  ·rw[if_pos e];subst e;exact(zA7 (m:=k+1) (β:=fun k=>cols.getD k 0) (fun a b i l=>d.inj a b (by omega) (by omega)) (el xs) (k:=k) (by omega)).symm
  ·rw[if_neg e];show _=pt (k+1) _ _ j
   unfold pt;rw[zai,if_neg e];grind
theorem zxy{m N:Nat}{A:List (List Rat)}{cols:List Nat}(a:Basis m N A cols)(xs:List Rat):zsF N cols xs m=zh1 N cols xs:=by
 apply List.ext_getElem?;intro j;by_cases hj:j<N
 ·rw[zaH (by rw[zh2];exact hj),zaH (by rw[zl8];exact hj),zvi a xs m (Nat.le_refl _) j hj,zvg hj,a.len]
 ·rw[List.getElem?_eq_none (by rw[zh2];omega),List.getElem?_eq_none (by rw[zl8];omega)]
section
variable {W0 w:World} {H q:Nat} {rA:OA} {rc:Nat} {lA:List Value} {bA:OA} {bc_:Nat} {kA:OA} {kc:Nat} {eA:OA} {ec m N S own:Nat} {A:List (List Rat)} {b c:List Rat} {left:List Int}
  {tA:OA} {tc:Nat} {cols:List Nat}
namespace Tb
theorem point(h:zhi W0 w H q rA rc lA bA bc_ kA kc eA ec m N S own A b c left tA tc cols) :
  Calls Tryz.prog 27 #[.pointer (some ⟨q,0,none⟩)] w fun e w'=>∃(s:OA) (c':Nat),e=.returned (.slice s N c')∧VecS w' w.heap.size (.slice s N c') (zh1 N cols (za5 A b cols))∧Below w.heap.size w w':=by
 obtain⟨qb,xA,xc,g⟩:=h;have d:=hid g;have am:=g.std.hm;have ah:=g.std.hN;have t:=hid (Below.refl w.heap.size w);obtain⟨k0,_,k1,_,_,_,_,_,_,_,_,_,T,ap,_,_,U,aq⟩:=bc9 g.blk;clear g;go_enter Tryz.func27,Tryz.ntmps27;go_wp2_with fail
 with_reducible refine(Mt.cols N m rc rA _).mono ?_
 rintro e w1 ⟨rfl,hb⟩;have r:=hid (d.out.below hb);have E:=hid (t.out.trans ((hb).mono t.out.size));have F:=zab hb T;have aK:=zaa F;have G:=zab hb U;have aL:=zaa G;clear hb;have v:=hid (show w.heap.size≤w1.heap.size from E.out.size);have P:=hid (d.out.basis.vals_ok b).2;go_wp2_with (at_make;go_must (refine zdv rfl _ _ rfl N _ rfl rfl rfl (by omega) w1.heap.size rfl ?_;intro w2 C l;have L:=hid C;have J:=hid l;have m6:=zab l F;have m8:=zab l G;clear C l))
 go_loopw [18] (fun i wr=>∃k:Nat,i=.int .i64 k∧k≤m∧VecS wr w1.heap.size (.slice (some ⟨w1.heap.size,0,none⟩) N N) (zsF N cols (za5 A b cols) k)∧Below w1.heap.size w1 wr)
  (fun i _=>m-(intOf i).toNat)
 case atStart=>exact⟨0,rfl,Nat.zero_le _,L.out,J.out⟩
 case round =>
  obtain⟨k,rfl,hk,a,f⟩:=hrel;by_cases o:k<m
  ·have hj:cols[k]? = some (cols.getD k 0):=zaO (by rw[d.out.basis.len];exact o);have B:=d.out.basis.lt k o;have u:=hid (show zsF N cols (za5 A b cols) (k+1)=(zsF N cols (za5 A b cols) k).set (cols.getD k 0) (el (za5 A b cols) k)from rfl);have p:=zaH (xs:=zsF N cols (za5 A b cols) k) (j:=cols.getD k 0) (by rw[zh2];exact B);generalize cols.getD k 0=j at hj B p u;have D:=zaH (xs:=za5 A b cols) (j:=k) (by rw[P.out];exact o);have y:=(r.out.below f).blk
   obtain⟨_,_,_,_,_,_,_,_,_,_,_,_,t6,aG,_,_,t8,aI⟩:=bc9 y;obtain⟨bt,R,_,_⟩:=d.out.colsI.has (by omega);subst R;obtain⟨bs,Q,_,_⟩:=d.out.x.has (by omega);subst Q;have p0:=(r.out.colsI.below f).at_ hj;obtain⟨ga,V,ma,ca,X,aw,ad,Z,a1,a2,z⟩:=(r.out.x.below f).at_ D;obtain⟨go,W,mo,co,Y,ax,ae,o0,o1,o2,_⟩:=a.at_ p;have aC:=a.fro (j*3);have of1:=a.fro (j*3+1);have aD:=a.fro (j*3+2);have n:=hid a;have K:=hid (Bel.mk f);have O:=hid z;clear a f z p D y hj;have ai:(0:Int)≤(k:Int):=Int.natCast_nonneg _
   have aj:(k:Int)<(m:Int):=by omega
   have ak:(0:Int)≤(j:Int):=Int.natCast_nonneg _;have al:(j:Int)<(N:Int):=by omega
   go_wp2;go_roundw
   case rel=>exact⟨k+1,by go_num,by omega,by rw[u.out];exact n.out.store j O.out,(Bel.set3 K.out (Nat.le_refl _) _ _ _).b⟩
   case measure=>simp[intOf];omega
  ·obtain rfl:m=k:=by omega
   have n:=hid a;have I:=hid f;have M:=hid (zxy d.out.basis (za5 A b cols));clear a f;go_wp2;go_ret
   exact⟨_,_,rfl,by have h:=n.out.base v.out;rw[M.out]at h;exact h,E.out.trans (I.out.mono v.out)⟩
end Tb
end
end Go.Proofs.YtbdhheepakmgkaaGreat
namespace Go.Proofs.YtbdhheepakmgkaaGreat
open Go.RowKit Am
open Lib (hid)
def zPA (n:Nat) (ys:List Rat) (rows:List PRow):Nat→List Rat
  | 0=>List.replicate n 0
  | k+1=>zly (zPA n ys rows k) (el ys k) (rows.getD k default).coef
def sv (n:Nat) (ys:List Rat) (rows:List PRow):List Rat:=zPA n ys rows rows.length
def zPV (ys:List Rat) (rows:List PRow) (k:Nat):Rat:=zai k fun i=>el ys i*(rows.getD i default).rhs
def sb (ys:List Rat) (rows:List PRow):Rat:=zPV ys rows rows.length
theorem zPw{n:Nat}{ys:List Rat}{rows:List PRow}(h:Rows n rows):∀k,k≤rows.length→(zPA n ys rows k).length=n
 | 0,_=>by simp[zPA]
 | k+1,hk=>by
  have d:=zPw (ys:=ys) h k (by omega);obtain⟨p,a⟩:∃p,rows[k]? = some p:=⟨rows[k]'(by omega),List.getElem?_eq_getElem _⟩
  have hc:=(h p (List.mem_of_getElem? a)).1;show(zly _ _ _).length=n
  rw[zfC a,zdt (by omega),d]
theorem zQr{xs ys:List Rat}{r q:Rat}(h:q∈zly xs r ys):∃a∈xs,∃b∈ys,q=a+r*b:=by
 obtain⟨k,hk⟩:=List.mem_iff_getElem?.1 h;unfold zly at hk;rw[List.getElem?_zipWith]at hk;cases ha:xs[k]? with
 | none=>rw[ha]at hk;simp at hk
 | some a =>
  cases hb:ys[k]? with
  | none=>rw[ha,hb]at hk;simp at hk
  | some b=>rw[ha,hb]at hk;simp at hk;exact⟨a,List.mem_of_getElem? ha,b,List.mem_of_getElem? hb,hk.symm⟩
theorem zPD{n:Nat}{ys:List Rat}{rows:List PRow}(h:Rows n rows)(zy:Sm ys):∀k,k≤rows.length→∀q∈zPA n ys rows k,mw q≤k*8000001+1
 | 0,_=>by
  intro q d;rw[zPA]at d;rw[List.eq_of_mem_replicate d];exact zvb
 | k+1,hk=>by
  intro q d;obtain⟨p,e⟩:∃p,rows[k]? = some p:=⟨rows[k]'(by omega),List.getElem?_eq_getElem _⟩
  have hc:=(h p (List.mem_of_getElem? e)).2.1;rw[zPA,zfC e]at d;obtain⟨a,f,b,g,rfl⟩:=zQr d;have h1:=zPD h zy k (by omega) a f;have i:=hc b g;have j:=zDJ (by omega) zy k;have l:=zrI a (el ys k*b);have o:=zdI (el ys k) b;omega
theorem zRr{n:Nat}{rows:List PRow}(h:Rows n rows)(i:Nat):mw (rows.getD i default).rhs≤4000000:=by
 rw[List.getD_eq_getElem?_getD];cases e:rows[i]? with
 | none=>exact Nat.le_trans zvb (by decide)
 | some p=>exact(h p (List.mem_of_getElem? e)).2.2
theorem zQY{n:Nat}{ys:List Rat}{rows:List PRow}(h:Rows n rows)(zy:Sm ys)(k:Nat):mw (zPV ys rows k)≤k*8000001+1 :=
 zrK (fun i=>Nat.le_trans (zdI _ _) (by have:=zDJ (by omega) zy i;have:=zRr h i;omega)) k
theorem zQd{ys:List Rat}{rows:List PRow}{k:Nat}{p:PRow}{q:Rat}(a:rows[k]? = some p)(d:ys[k]? = some q):zPV ys rows (k+1)=zPV ys rows k+q*p.rhs:=by
 unfold zPV;rw[zai,znd d,zfC a]
theorem zQg{n:Nat}{ys:List Rat}{rows:List PRow}{k:Nat}{p:PRow}{q:Rat}(a:rows[k]? = some p)(d:ys[k]? = some q):zPA n ys rows (k+1)=zly (zPA n ys rows k) q p.coef:=by
 rw[zPA,znd d,zfC a]
theorem VecS.set3{w:World}{H:Nat}{v:Value}{qs:List Rat}{b:Nat}{cs:Array Value}{t:TypeId}(h:VecS w H v qs)(a:w.heap[b]? = some (.cells cs t (0,0)))(f:131≠t)(g:b<H)(i j k:Nat)(u x y:Value) :
  VecS (((w.setCell ⟨b,i,none⟩ u).setCell ⟨b,j,none⟩ x).setCell ⟨b,k,none⟩ y) H v qs:=by
 have d:v.ownBlock≠some b:=fun e=>by have:=(h.lt e).1;omega
 exact((h.setCell (p:=⟨b,i,none⟩) d a f u).setCell (p:=⟨b,j,none⟩) d (zar u a) f x).setCell (p:=⟨b,k,none⟩) d (zar x (zar u a)) f y
end Go.Proofs.YtbdhheepakmgkaaGreat
namespace Go.Proofs.YtbdhheepakmgkaaGreat
open Go.RowKit Am
open Lib (hid)
attribute [local go_sem ↓] Go.wp_at_zero Go.wp_at_succ
theorem zcs.take{w:World}{A:OA}{ps:List (Int × Int)}(h:zcs w A ps)(n:Nat):zcs w A (ps.take n):=by
 intro k x a;rw[List.getElem?_take]at a;split at a
 ·exact h k x a
 ·cases a
theorem zex.take{w:World}{A:OA}{d:List LineV}(h:zex w A d)(n:Nat):zex w A (d.take n):=by
 intro k x a;rw[List.getElem?_take]at a;split at a
 ·exact h k x a
 ·cases a
theorem zcs.below'{w w':World}{A:OA}{ps:List (Int × Int)}(h:zcs w A ps)(a:Below w.heap.size w w'):zcs w' A ps:=h.below a
theorem zex.below'{w w':World}{A:OA}{a:List LineV}(h:zex w A a)(d:Below w.heap.size w w'):zex w' A a:=h.below d
theorem zKA{w:World}{b o a:Nat}{x:Obj}(u:Value)(d:a≠b)(h:w.heap[a]? = some x):(w.setCell ⟨b,o,none⟩ u).heap[a]? = some x:=(Below.heap_setCell w ⟨b,o,none⟩ u a d).trans h
abbrev S1 (xs:List Rat):Prop:=∀q∈xs,mw q≤1
structure Good1 (nc nr:Nat) (cost:List Rat) (rows:List PRow):Prop where
  hc:nc≤5
  hr:nr≤4
  sc:S1 cost
  rw_:∀p∈rows,p.coef.length=nc∧S1 p.coef∧mw p.rhs≤1
  kd:Kinds rows
def PR (nC k:Nat) (ps:List PRow):Prop:=∀(i:Nat) (p:PRow),ps[i]? = some p→S1 p.coef∧mw p.rhs≤1∧(i<k→p.coef.length=nC∧1≤p.kind∧p.kind≤3)
theorem zLC{w:World}{A:OA}{d:List LineV}(h:zex w A d)(nC:Nat):PR nC 0 (zJI d):=by
 intro i p a;unfold zJI at a;rw[List.getElem?_map]at a;cases e:d[i]? with
 | none=>rw[e]at a;simp at a
 | some x =>
  rw[e]at a;simp at a;subst a;obtain⟨_,h1,f,b,o,C,cc,_,g,_⟩:=h i x e;exact⟨zyq g,zH7 h1 f,fun h=>by omega⟩
theorem zLZ{nC k:Nat}{ps:List PRow}(h:PR nC k ps){qs:List Rat}(g:S1 qs)(l:nC≤qs.length){z:Int}(d:1≤z∧z≤3):PR nC (k+1) ((ps.modify k fun p=>{ p with coef:=qs.take nC }).modify k fun p=>{ p with kind:=z }):=by
 intro i p a;rw[List.getElem?_modify,List.getElem?_modify]at a;cases e:ps[i]? with
 | none=>rw[e]at a;simp at a
 | some p0 =>
  rw[e]at a;have h0:=h i p0 e;by_cases hk:k=i
  ·subst hk;simp at a;subst a;exact⟨fun q f=>g q (List.mem_of_mem_take f),h0.2.1,fun _=>⟨by rw[List.length_take];omega,d.1,d.2⟩⟩
  ·simp[hk]at a;subst a;exact⟨h0.1,h0.2.1,fun j=>h0.2.2 (by omega)⟩
theorem zLX(x:Int):1≤wrap64 (IntKind.u64.wrap (1+(IntKind.u64.wrap x).tmod 3))∧wrap64 (IntKind.u64.wrap (1+(IntKind.u64.wrap x).tmod 3))≤3:=by
 have h0:0≤IntKind.u64.wrap x:=by unfold IntKind.wrap IntKind.signed IntKind.bits;simp;omega
 generalize IntKind.u64.wrap x=y at *
 have h1:0≤y.tmod 3∧y.tmod 3<3:=by rw[Int.tmod_eq_emod_of_nonneg h0];omega
 generalize y.tmod 3=m at *
 have a:IntKind.u64.wrap (1+m)=1+m:=by unfold IntKind.wrap IntKind.signed IntKind.bits;simp;omega
 rw[a];unfold wrap64;omega
theorem RowsS.setT{w:World}{H:Nat}{v:Value}{ps:List PRow}(h:RowsS w H v ps){a:Addr}{t:TypeId}{cs:Array Value}(hg:w.heap[a.block]? = some (.cells cs t (0,0)))(h1:131≠t)(g:47≠t)(i:60≠t)(u:Value):RowsS (w.setCell a u) H v ps:=by
 obtain⟨l,d,e,f⟩:=h.row;exact(RowsL.setT (l:=l) ⟨d,e,f⟩ hg h1 g i u).toS
def zKx:Value→Nat
  | .slice _ n _=>n
  | _=>0
def zLo (w:World) (e:Ending) (w':World):Prop:=∃(C:OA) (nC cC:Nat) (R:OA) (nR cR:Nat) (l:List RR) (cost:List Rat) (rows:List PRow),e=.returned (.agg #[.slice C nC cC,.slice R nR cR]) ∧
  VecS w' w.heap.size (.slice C nC cC) cost∧RowsL w' w.heap.size (.slice R nR cR) l rows∧Apart (.slice C nC cC) l∧From w.heap.size l∧Good1 nC nR cost rows∧Below w.heap.size w w'
namespace Lw
theorem zLD(A:OA)(u cA:Nat)(L:OA)(o x:Nat)(cs:List (Int × Int))(ls:List LineV)(w:World)(hf:zcs w A cs)(aK:zex w L ls)(hn:u=cs.length)(hm:o=ls.length)(n:u≤cA)(aF:o≤x)(hc:cA≤9223372036854775807)(bo:x≤9223372036854775807) :
  Calls Tryz.prog 5 #[.agg #[.slice A u cA,.slice L o x]] w (zLo w):=by
 have M:=hid hn;have HM:=hid hm;have HF:=hid hf;have HL:=hid aK;clear hn hm hf aK;obtain⟨W,hW⟩:∃W,((w.alloc (.cells #[.slice A u cA,.slice L o x] 25)).alloc (.cells #[.slice none 0 0,.slice none 0 0] 31))=W:=⟨_,rfl⟩
 have aj:=hid (show W.heap[w.heap.size]? = some (.cells #[.slice A u cA,.slice L o x] 25 (0,0))by rw[←hW];exact zak (zam (by simp)));have aC:=hid (show W.heap[w.heap.size+1]? = some (.cells #[.slice none 0 0,.slice none 0 0] 31 (0,0))by rw[←hW];exact zam (by simp));have BB:=hid (show Below w.heap.size w W by rw[←hW];exact(zae w _).alloc (by simp) _);obtain⟨bK,_,bO,_⟩:=bf2 aj.out;obtain⟨D,aO⟩:∃D,D=min u 5:=⟨_,rfl⟩
 have G:=hid aO;clear aO;obtain⟨J,aN⟩:∃J,J=min o 4:=⟨_,rfl⟩
 have F:=hid aN;clear aN;go_enter Tryz.func5,Tryz.ntmps5;go_upto_if 9 with fail
 clear hW;go_cut[] (fun wr=>wr.heap[w.heap.size]? = some (.cells #[.slice A D cA,.slice L o x] 25 (0,0))∧wr.heap[w.heap.size+1]? = some (.cells #[.slice none 0 0,.slice none 0 0] 31 (0,0))∧Below w.heap.size w wr)
 case first =>
  by_cases h9:5<u
  ·have al:(5:Int)<(u:Int):=by omega
   obtain rfl:D=5:=by have:=G.out;have:=F.out;omega
   go_wp2;go_meet
   case rel=>exact⟨zar _ aj.out,zKA _ (by omega) aC.out,Below.setCell BB.out (by show w.heap.size≤w.heap.size;omega) _⟩
  ·have al:¬((5:Int)<(u:Int)):=by omega
   have an:D=u:=by have:=G.out;have:=F.out;omega
   clear n aF;go_wp2;go_meet
   case rel=>exact⟨by rw[an];exact aj.out,aC.out,BB.out⟩
 case rest =>
  obtain⟨U,V,P⟩:=hcut;rename World=>wa
  have ai:=hid U;have aA:=hid V;have aB:=hid P;clear U V P;obtain⟨_,_,_,_,bJ,_,bN,_⟩:=bf2 ai.out;go_upto_if 17 with fail
  go_cut[] (fun wr=>wr.heap[w.heap.size]? = some (.cells #[.slice A D cA,.slice L J x] 25 (0,0))∧wr.heap[w.heap.size+1]? = some (.cells #[.slice none 0 0,.slice none 0 0] 31 (0,0))∧Below w.heap.size w wr)
  case first =>
   by_cases h9:4<o
   ·have al:(4:Int)<(o:Int):=by omega
    obtain rfl:J=4:=by have:=G.out;have:=F.out;omega
    go_wp2;go_meet
    case rel=>exact⟨zar _ ai.out,zKA _ (by omega) aA.out,Below.setCell aB.out (by show w.heap.size≤w.heap.size;omega) _⟩
   ·have al:¬((4:Int)<(o:Int)):=by omega
    have an:J=o:=by have:=G.out;have:=F.out;omega
    clear n aF;go_wp2;go_meet
    case rel=>exact⟨by rw[an];exact ai.out,aA.out,aB.out⟩
  case rest =>
   obtain⟨U,V,P⟩:=hcut;rename World=>wb
   have a7:=hid U;have a8:=hid V;have Y:=hid P;clear U V P;obtain⟨bL,_,_,_,bM,_⟩:=bf2 a7.out;go_wp2_with fail
   with_reducible refine(zMg A D cA L J x (cs.take 5) (ls.take 4) _ ((HF.out.below' Y.out).take 5) ((HL.out.below' Y.out).take 4) (by rw[List.length_take,←M.out,G.out];omega) (by rw[List.length_take,←HM.out,F.out];omega) (by rw[G.out];omega) (by rw[F.out];omega)).mono ?_
   rintro e w1 ⟨C,nC,cC,R,d,cR,l,rfl,hv,hl,ha,hfm,n⟩;have bl:=hid (zad n a8.out);have O:=hid (show w.heap.size≤wb.heap.size from Y.out.size);have a5:=hid (show wb.heap.size≤w1.heap.size from n.size);obtain⟨cost,am⟩:∃cost,frs (cs.take 5)=cost:=⟨_,rfl⟩
   obtain⟨K,ab⟩:∃K,zJI (ls.take 4)=K:=⟨_,rfl⟩
   have a0:=hid (show PR nC 0 K by rw[←ab];exact zLC (HL.out.take 4) nC);have aW:=hid (show S1 cost by rw[←am];exact zyq (HF.out.take 5));have ae:=hid (show nC≤5 by rw[hv.len];simp[frs];omega);have af:=hid (show d≤4∧K.length=d by rw[hl.toS.len,←ab];simp[zJI];omega);rw[am]at hv;rw[ab]at hl
   have f:=hid (show ROut w (w1.alloc (.cells #[.slice C nC cC,.slice R d cR] 31)) w1.heap.size (.slice C nC cC) cost (.slice R d cR) l K from⟨zak bl.out,zal _ _ _,(hv.base O.out).alloc _,(hl.base' O.out).alloc _,ha,fun i ri b z n=>Nat.le_trans O.out (hfm i ri b z n),(Y.out.trans (n.mono O.out)).alloc (Nat.le_trans O.out a5.out) _⟩);clear hv hl ha hfm n am ab;go_wp2
   go_loopw [4] (fun i wr=>∃(k:Nat) (l:List RR) (ps:List PRow),i=.int .i64 k∧k≤d∧ps.length=d∧ROut w wr w1.heap.size (.slice C nC cC) cost (.slice R d cR) l ps∧PR nC k ps)
    (fun i _=>d-(intOf i).toNat)
   case atStart=>exact⟨0,l,K,rfl,Nat.zero_le _,af.out.2,f.out,a0.out⟩
   case round =>
    obtain⟨k,l,ps,rfl,hk,aR,t,hP⟩:=hrel;have f:=hid t;have X:=hid hP;have s:=hid aR;clear hP aR;have p0:=zac t.pbx 0;have p1:=zac t.pbx 1;simp only[List.getElem?_toArray,List.getElem?_cons_zero,List.getElem?_cons_succ]at p0 p1;have bx:d≤9223372036854775807:=by have:=af.out.1;omega
    have bw:nC≤9223372036854775807:=by have:=ae.out;omega
    by_cases aL:k<d
    ·obtain⟨p,y⟩:∃p,ps[k]? = some p:=⟨ps[k]'(by rw[s.out];exact aL),List.getElem?_eq_getElem _⟩
     obtain⟨j,rfl,bm,bn⟩:=f.out.rows.toS.has (by omega);obtain⟨r,hr⟩:∃r,l[k]? = some r:=⟨l[k]'(by rw[f.out.rows.len,s.out];exact aL),List.getElem?_eq_getElem _⟩
     obtain⟨Q,nq,cq,ao⟩:=(f.out.rows.each k r p hr y).coef.slice;have q0:wr.cell? ⟨j,k*5,none⟩=some (.slice Q nq cq):=by have ho:=f.out.rows.own;have e:=s.out;rw[←ao];rw[e]at ho;rw[ho.cellAt (k*5) (by omega)];exact(zqG l k r hr).1
     have HS:=hid (show RSt w wr w1.heap.size (.slice C nC cC) cost (.slice (some ⟨j,0,none⟩) d cR) l ps k (.slice Q nq cq) p.coef by rw[←ao];exact RSt.start f.out hr y);have a4:=hid (X.out k p y).1;have aX:=hid (show k<l.length from(List.getElem?_eq_some_iff.1 hr).1);have ay:=hid hr;have bt:(0:Int)≤(k:Int):=Int.natCast_nonneg _;have bu:(k:Int)<(d:Int):=by omega
     clear t y hr ao;go_wp2
     go_loopw [5] (fun cv wz=>∃(E:OA) (B c':Nat) (qs:List Rat),cv=.slice E B c'∧RSt w wz w1.heap.size (.slice C nC cC) cost (.slice (some ⟨j,0,none⟩) d cR) l ps k (.slice E B c') qs∧S1 qs)
      (fun cv _=>nC-zKx cv)
     case atStart=>exact⟨Q,nq,cq,_,rfl,HS.out,a4.out⟩
     case round =>
      rename World=>wz
      obtain⟨E,B,c',qs,rfl,I,aE⟩:=hrel;have ah:=hid I;have az:=hid aE;have z0:=zac I.pbx 0;have z1:=zac I.pbx 1;simp only[List.getElem?_toArray,List.getElem?_cons_zero,List.getElem?_cons_succ]at z0 z1;have M:=hid I.cur.len;have av:=hid I.cur.form.2;clear I aE;by_cases bv:B<nC
      ·have bb:(B:Int)<(nC:Int):=by omega
       go_wp2_with fail
       refine(Rt.int (B:Int) (by omega) (by omega) _).mono ?_;rintro e w2 ⟨g,A2,m2,c2,D2,md2,cd2,rfl,hq,n⟩;have ag:=hid (ah.out.below n);have a1:=hid hq;clear hq n;go_wp2_with (at_builtin;go_loud (refine zKm rfl _ _ rfl rfl (ag.out.cur.alloc _) rfl (zal _ _ _) (a1.out.alloc _) (by have:=M.out;have:=ae.out;omega) (Nat.le_trans ag.out.bel.size (by simp)) ?_;intro A3 n3 c3 w3 aS aI aH aQ bc;have a3:=hid ((ag.out.alloc _).append aX.out aS aI aH aQ);clear aS aI aH aQ))
       subst bc;exact⟨⟨A3,_,c3,_,rfl,a3.out,fun q hq=>by rcases List.mem_append.1 hq with h | h;exact az.out q h;rw[List.mem_singleton.1 h];exact zu9 _ (by constructor<;>omega)⟩,by have:=M.out;simp[zKx];omega⟩
      ·have bb:¬((B:Int)<(nC:Int)):=by omega
       have aY:=hid (show nC≤qs.length by have:=M.out;omega);have bp:nC≤c':=Nat.le_trans (by omega) av.out.1;have bq:c'≤9223372036854775807:=by have:=av.out.2.1;unfold maxLen at this;omega
       have br:(nC:Int)≤(c':Int):=by omega
       have bs:(0:Int)≤(nC:Int):=Int.natCast_nonneg _;have own:=ah.out.own;rw[s.out]at own;have y0:wz.cell? ⟨j,k*5,none⟩=some r.c:=by rw[own.cellAt (k*5) (by omega)];exact(zqG l k r ay.out).1
       have aU:=own.frozenAt (k*5);clear own;go_wp2_with fail
       have bj:wz.drew.cell? ⟨w1.heap.size,0,none⟩=some (.slice C nC cC):=z0;have bk:wz.drew.cell? ⟨w1.heap.size,1,none⟩=some (.slice (some ⟨j,0,none⟩) d cR):=z1;have bg:wz.drew.cell? ⟨j,k*5,none⟩=some r.c:=y0;have bh:wz.drew.frozen? ⟨j,k*5,none⟩=false:=aU;go_cut[] (fun wy=>ROut w wy w1.heap.size (.slice C nC cC) cost (.slice (some ⟨j,0,none⟩) d cR) (zei l k (.slice E nC c')) (ps.modify k fun p=>{ p with coef:=qs.take nC }))
       case first =>
        go_region
        all_goals
         go_wp2;go_meet
         case rel=>exact(ah.out.put s.out.symm nC (by omega)).drew
       case rest =>
        have HY:=hid hcut;have aJ:(zei l k (.slice E nC c'))[k]? = some { r with c:=.slice E nC c' }:=by unfold zei;rw[List.getElem?_modify,ay.out];simp
        have own:=hcut.rows.own;rw[List.length_modify,s.out]at own;have v1:=zac hcut.pbx 1;simp only[List.getElem?_toArray,List.getElem?_cons_zero,List.getElem?_cons_succ]at v1;have y1:wc.cell? ⟨j,k*5+1,none⟩=some (.int .i64 r.k):=by rw[own.cellAt (k*5+1) (by omega)];exact(zqG _ k _ aJ).2.1
        have bi:=own.frozenAt (k*5+1);clear own hcut aJ z0 z1 y0 aU bj bk bg bh;have bE:wc.drew.cell? ⟨w1.heap.size,1,none⟩=some (.slice (some ⟨j,0,none⟩) d cR):=v1;have bH:wc.drew.cell? ⟨j,k*5+1,none⟩=some (.int .i64 r.k):=y1;have bI:wc.drew.frozen? ⟨j,k*5+1,none⟩=false:=bi;go_wp2_with fail
        go_region
        all_goals
         go_wp2;exact⟨⟨k+1,_,_,by simp,by omega,by rw[List.length_modify,List.length_modify,s.out],(HY.out.putK (by rw[List.length_modify,s.out]) k _).drew,zLZ X.out az.out aY.out (zLX r.k)⟩,by simp[intOf];omega⟩
    ·obtain rfl:d=k:=by omega
     have Z:=hid t.res;have s0:=zac t.res 0;have s1:=zac t.res 1;have bC:=zag t.res 0;have bD:=zag t.res 1;simp only[List.getElem?_toArray,List.getElem?_cons_zero,List.getElem?_cons_succ]at s0 s1;clear t;go_wp2;refine bodyPost_ret (v:=.agg #[.slice C nC cC,.slice R d cR]) (by simp[results,Tryz.results5,go_sem,s0,s1]) rfl ?_
     have hg:Good1 nC d cost ps:=⟨ae.out,af.out.1,aW.out,fun p y=>by obtain⟨i,z⟩:=List.mem_iff_getElem?.1 y;have T:=X.out i p z;exact⟨(T.2.2 (by have:=(List.getElem?_eq_some_iff.1 z).1;have:=s.out;omega)).1,T.1,T.2.1⟩,fun p y=>by obtain⟨i,z⟩:=List.mem_iff_getElem?.1 y;have T:=X.out i p z;exact(T.2.2 (by have:=(List.getElem?_eq_some_iff.1 z).1;have:=s.out;omega)).2⟩
     exact⟨_,_,_,_,_,_,_,cost,ps,rfl,(f.out.cost.setT (p:=⟨w.heap.size+1,0,none⟩) Z.out (by decide) (by decide) _).setT (p:=⟨w.heap.size+1,1,none⟩) (zar _ Z.out) (by decide) (by decide) _,(f.out.rows.setT (a:=⟨w.heap.size+1,0,none⟩) Z.out (by decide) (by decide) (by decide) _).setT (a:=⟨w.heap.size+1,1,none⟩) (zar _ Z.out) (by decide) (by decide) (by decide) _,f.out.ap,f.out.fr,hg,bsc (bsc f.out.bel)⟩
end Lw
def yet (w:World) (v:List Rat) (q:Rat) (b:Bool) (e:Ending) (w':World):Prop:=∃(S:OA) (ns cs:Nat) (g:Bool) (A:OA) (m c:Nat) (D:OA) (md cd:Nat),
  e=.returned (.tuple #[.slice S ns cs,.agg #[.bool g,.slice A m c,.slice D md cd],.bool b])∧VecS w' w.heap.size (.slice S ns cs) v∧RatS w' g (.slice A m c) (.slice D md cd) q∧Below w.heap.size w w'
namespace Ct
theorem yeM(C:OA)(nc cc:Nat)(R:OA)(nr e:Nat)(cost:List Rat)(rows:List PRow)(Y:OA)(a f:Nat)(y:List Rat)(w:World)(hc:VecS w 0 (.slice C nc cc) cost)(hr:RowsS w 0 (.slice R nr e) rows)(d:VecS w 0 (.slice Y a f) y)(g:y.length≠rows.length) :
  Calls Tryz.prog 33 #[.agg #[.slice C nc cc,.slice R nr e],.slice Y a f] w (yet w [] 0 false):=by
 have h1:¬((a:Int)=(nr:Int)):=by rw[d.len,hr.len];omega
 have i:¬a=nr:=by rw[d.len,hr.len];omega
 clear hc hr d g;go_enter Tryz.func33,Tryz.ntmps33;go_wp2;refine bodyPost_ret (v:=.tuple #[.slice none 0 0,.agg #[.bool false,.slice none 0 0,.slice none 0 0],.bool false]) (by simp[results,Tryz.results33,go_sem]) rfl ?_;exact⟨_,_,_,_,_,_,_,_,_,_,rfl,VecS.nil _ _,RatS.zero _,(zae w _).alloc (by simp) _⟩
theorem yeN(C:OA)(nc cc:Nat)(R:OA)(nr cr:Nat)(cost:List Rat)(rows:List PRow)(Y:OA)(ny cy:Nat)(y:List Rat)(w:World)(hc:VecS w 0 (.slice C nc cc) cost)(hr:RowsS w 0 (.slice R nr cr) rows)(hy:VecS w 0 (.slice Y ny cy) y)(hl:y.length=rows.length)(bP:nr≤4)(cV:nc≤1000)(a9:Rows nc rows)(zy:Sm y) :
  Calls Tryz.prog 33 #[.agg #[.slice C nc cc,.slice R nr cr],.slice Y ny cy] w (yet w (sv nc y rows) (sb y rows) true):=by
 have bO:=hy.len;have a6:=hr.len;have en:nr=ny:=by omega
 subst en;have HL:=hid hl;have HN:=hid a6;have aU:=hid bP;have aT:=hid (show nc≤1048576 by omega);have ae:=hid a9;have ZY:=hid zy;clear hl bO a6 a9 zy;obtain⟨W,F⟩:∃W,((w.alloc (.cells #[.slice C nc cc,.slice R nr cr] 31)).alloc (.cells #[.bool false,.slice none 0 0,.slice none 0 0] 47))=W:=⟨_,rfl⟩
 have a0:=hid (show W.heap[w.heap.size]? = some (.cells #[.slice C nc cc,.slice R nr cr] 31 (0,0))by rw[←F];exact zak (zam (by simp)));have a1:=hid (show W.heap[w.heap.size+1]? = some (.cells #[.bool false,.slice none 0 0,.slice none 0 0] 47 (0,0))by rw[←F];exact zam (by simp));have BB:=hid (show Below w.heap.size w W by rw[←F];exact(zae w _).alloc (by simp) _);have HZ:=hid (show w.heap.size+2≤W.heap.size by rw[←F];simp)
 have HC:=hid (show VecS W 0 (.slice C nc cc) cost by rw[←F];exact((hc).alloc _).alloc _);have HY:=hid (show VecS W 0 (.slice Y nr cy) y by rw[←F];exact((hy).alloc _).alloc _);have HR:=hid (show RowsS W 0 (.slice R nr cr) rows by rw[←F];exact((hr).alloc _).alloc _);obtain⟨dq,dv,dr,dm⟩:=bc2 a0.out;obtain⟨dG,dE,d0,dB,dC,dK,dM,dy,dR,dW,ex,d9⟩:=bf3 a1.out;clear hc hr hy;go_enter Tryz.func33,Tryz.ntmps33
 go_wp2_with (at_make;go_must (refine zdv rfl _ _ rfl nc _ rfl rfl rfl aT.out W.heap.size rfl ?_;intro w1 ho z;have cY:=z.size;have am:=hid (zad z a0.out);have ac:=hid (zad z a1.out);have aR:=hid (HC.out.below z);have av:=hid (HY.out.below z);have au:=hid (HR.out.below z);have HO:=hid (show VecS w1 W.heap.size (.slice (some ⟨W.heap.size,0,none⟩) nc nc) (List.replicate nc 0)from ho);have Z:=hid (BB.out.trans ((z).mono BB.out.size));obtain⟨dn,dt,dp,du⟩:=bc2 am.out;obtain⟨dF,ds,dX,dA,dH,dl,dT,dD,dz,dL,d4,dV⟩:=bf3 ac.out;have I:=zae w1 (.cells #[.bool false,.slice none 0 0,.slice none 0 0] 47);have J:=hid (zad I am.out);have B:=hid (zad I ac.out);have be:=hid (aR.out.below I);have bd:=hid (av.out.below I);have bx:=hid (au.out.below I);have bc:=hid (HO.out.below I);have aM:=hid (Z.out.trans ((I).mono Z.out.size));obtain⟨aI,aG,aJ,aH⟩:=bc2 J.out;obtain⟨ao,al,aK,aN,ap,ak,aO,aL,aq,an,aQ,aP⟩:=bf3 B.out;clear ho z))
 clear F
 go_loopw [7,27] (fun ov i wr=>∃(k:Nat) (S:OA) (cs:Nat) (s:Bool) (f:OA) (x o:Nat) (j:OA) (u n:Nat),i=.int .i64 k∧ov=.slice S nc cs∧k≤nr∧VecS wr W.heap.size (.slice S nc cs) (zPA nc y rows k)∧wr.heap[w1.heap.size]? = some (.cells #[.bool s,.slice f x o,.slice j u n] 47 (0,0))∧RatS wr s (.slice f x o) (.slice j u n) (zPV y rows k)∧Below w1.heap.size w1 wr)
  (fun _ i _=>nr-(intOf i).toNat)
 case atStart=>exact⟨0,_,_,_,_,_,_,_,_,_,rfl,rfl,Nat.zero_le _,HO.out.alloc _,zal _ _ _,RatS.zero _,zae w1 _⟩
 case round =>
  obtain⟨k,S,cs,s,f,x,o,j,u,n,rfl,rfl,hk,hV,ai,hP,a⟩:=hrel;by_cases a5:k<nr
  ·obtain⟨p,hp⟩:∃p,rows[k]? = some p:=⟨rows[k]'(by rw[←HN.out];exact a5),List.getElem?_eq_getElem _⟩
   obtain⟨q,G⟩:∃q,y[k]? = some q:=⟨y[k]'(by rw[HL.out,←HN.out];exact a5),List.getElem?_eq_getElem _⟩
   obtain⟨b,rfl,cQ,z⟩:=HR.out.has (by omega);obtain⟨by_,rfl,cR,cS⟩:=HY.out.has (by omega);obtain⟨Q,nq,r,g,A,m,c,D,t,l,k0,k1,k2,k3,k4,aD,a8⟩:=(au.out.below a).at_ hp;obtain⟨U,L,V,P,M,X,T,l0,l1,l2,a3⟩:=(av.out.below a).at_ G;have HP:=hid hp;have HQ:=hid G;have O:=hid (ae.out p (List.mem_of_getElem? hp));have ay:=hid (ZY.out q (List.mem_of_getElem? G));obtain rfl:nc=nq:=by rw[aD.len,O.out.1]
   have J:=hid (zad a am.out);have B:=hid (zad a ac.out);have be:=hid (aR.out.below a);have bd:=hid (av.out.below a);have bx:=hid (au.out.below a);have bc:=hid (HO.out.below a);have HV:=hid (show VecS wr W.heap.size (.slice S nc cs) (zPA nc y rows k)from hV);have ax:=hid (show RatS wr s (.slice f x o) (.slice j u n) (zPV y rows k)from hP);have bG:=hid (show RatS wr U (.slice L V P) (.slice M X T) q from a3);have bI:=hid (show VecS wr 0 (.slice Q nc r) p.coef from aD)
   have bF:=hid (show RatS wr g (.slice A m c) (.slice D t l) p.rhs from a8);have HW:=hid (show Bel w1 wr from Bel.mk a);have aM:=hid (Z.out.trans ((a).mono Z.out.size));obtain⟨aI,aG,aJ,aH⟩:=bc2 J.out;obtain⟨ao,al,aK,aN,ap,ak,aO,aL,aq,an,aQ,aP⟩:=bf3 B.out;have bi:wr.cell? ⟨by_,k*3,none⟩=some (.bool U):=l0;have c2:=zaa bi;have bl:wr.cell? ⟨by_,k*3+1,none⟩=some (.slice L V P):=l1;have c7:=zaa bl;have bm:wr.cell? ⟨by_,k*3+2,none⟩=some (.slice M X T):=l2;have da:=zaa bm;have af:=hid ai
   clear hV ai hP a hp G a3 aD a8 l0 l1 l2;have aw:=hid (show(zPA nc y rows k).length=p.coef.length by rw[zPw ae.out k (by rw[←HN.out];exact hk),O.out.1]);have bK:=hid (show ∀q∈zPA nc y rows k,mw q≤100000000 from fun q G=>Nat.le_trans (zPD ae.out ZY.out k (by rw[←HN.out];exact hk) q G) (by have:=aU.out;omega));have L1:=hid (show 4*(mw q+mw p.rhs)+8≤LIM by have:=ay.out;have:=O.out.2.2;have:=zaP;omega)
   have L2:=hid (show 4*(mw (zPV y rows k)+mw (q*p.rhs))+8≤LIM by have:=ay.out;have:=O.out.2.2;have:=zaP;have:=zdI q p.rhs;have:=zQY ae.out ZY.out k;have:=aU.out;omega);have cT:(0:Int)≤(k:Int):=Int.natCast_nonneg _;have cU:(k:Int)<(nr:Int):=by omega
   have cW:=HZ.out;have cX:w.heap.size+2≤w1.heap.size:=(by have:=(Array.getElem?_eq_some_iff.1 ac.out).1;omega)
   have d:=zae wr (.cells #[.slice Q nc r,.int .i64 p.kind,.bool g,.slice A m c,.slice D t l] 60);have bf:=hid (zad d J.out);have bn:=hid (zad d B.out);have bw:=hid (zad d af.out);have cH:=hid (HV.out.below d);have b8:=hid (ax.out.below d);have bB:=hid (bG.out.below d);have cf:=hid (bI.out.below d);have cg:=hid (bF.out.below d);have cF:=hid (HW.out.below d);obtain⟨ea,dw,eb,dx⟩:=bc2 bf.out;obtain⟨eV,ej,fd,eB,eX,el,e2,eC,e5,eE,e3,eD⟩:=bf3 bn.out
   obtain⟨fG,fw,fM,fJ,fH,fx,fN,fK,fI,fy,fO,fL⟩:=bf3 bw.out;have cl:=zab d bi;have bU:=zaa cl;have cn:=zab d bl;have bW:=zaa cn;have cp:=zab d bm;have bY:=zaa cp;have co:(wr.alloc (.cells #[.slice Q nc r,.int .i64 p.kind,.bool g,.slice A m c,.slice D t l] 60)).cell? ⟨wr.heap.size,0,none⟩=some (.slice Q nc r):=zax rfl rfl;have b0:=zaa co;have cv:(wr.alloc (.cells #[.slice Q nc r,.int .i64 p.kind,.bool g,.slice A m c,.slice D t l] 60)).cell? ⟨wr.heap.size,2,none⟩=some (.bool g):=zax rfl rfl
   have b2:=zaa cv;have cA:(wr.alloc (.cells #[.slice Q nc r,.int .i64 p.kind,.bool g,.slice A m c,.slice D t l] 60)).cell? ⟨wr.heap.size,3,none⟩=some (.slice A m c):=zax rfl rfl;have b4:=zaa cA;have cC:(wr.alloc (.cells #[.slice Q nc r,.int .i64 p.kind,.bool g,.slice A m c,.slice D t l] 60)).cell? ⟨wr.heap.size,4,none⟩=some (.slice D t l):=zax rfl rfl;have b6:=zaa cC;go_wp2_with fail
   have bQ:w1.heap.size<wr.heap.size:=(Array.getElem?_eq_some_iff.1 af.out).1
   go_region_held3 (fun w'=>w'.cell? ⟨by_,k*3,none⟩=some (.bool U)∧w'.cell? ⟨by_,k*3+1,none⟩=some (.slice L V P)∧w'.cell? ⟨by_,k*3+2,none⟩=some (.slice M X T)∧w'.cell? ⟨wr.heap.size,0,none⟩=some (.slice Q nc r)∧w'.cell? ⟨wr.heap.size,2,none⟩=some (.bool g)∧w'.cell? ⟨wr.heap.size,3,none⟩=some (.slice A m c)∧w'.cell? ⟨wr.heap.size,4,none⟩=some (.slice D t l))
    (((try go_split_ands);(try simp only[World.cell?_drew]);(repeat' apply And.intro)<;>(repeat(first | with_reducible assumption | with_reducible refine cell_set (by omega) ?_ | with_reducible refine cell_al ?_))))
    (first
     | (go_at_call 72;(with_reducible refine(Vc.addTimes S nc cs (zPA nc y rows k) U L V P M X T q Q nc r p.coef W.heap.size 0 _ cH.out.drew bB.out.drew cf.out.drew aw.out aT.out bK.out (Nat.le_trans ay.out (by decide)) (fun q G=>Nat.le_trans (O.out.2.1 q G) (by decide))).mono ?_);rintro e v1 ⟨S2,ns2,cs2,rfl,hn,hb⟩;have bg:=hid (zad hb bf.out);have bh:=hid (zad hb bn.out);have bo:=hid (zad hb bw.out);have b9:=hid (b8.out.drew.below hb);have ci:=hid (bB.out.drew.below hb);have ce:=hid (cg.out.drew.below hb);have cx:=hid (cF.out.drew.below hb);have aY:=hid (show VecS v1 wr.heap.size (.slice S2 ns2 cs2) (zly (zPA nc y rows k) q p.coef)from(hn.base (by show wr.heap.size≤(wr.alloc _).heap.size;simp)));obtain⟨dY,dI,dZ,dJ⟩:=bc2 bg.out;obtain⟨d7,dP,d2,dS,d8,dQ,d3,dU,eZ,eo,et,ef⟩:=bf3 bh.out;obtain⟨e0,ep,eP,ev,e1,eq,eI,ew,e7,eH,e4,ez⟩:=bf3 bo.out;have cj:=zab hb bU;have bV:=zaa cj;have cm:=zab hb bW;have bX:=zaa cm;have ct:=zab hb bY;have bZ:=zaa ct;have cu:=zab hb b0;have b1:=zaa cu;have cw:=zab hb b2;have b3:=zaa cw;have cB:=zab hb b4;have b5:=zaa cB;have cD:=zab hb b6;have b7:=zaa cD;clear hn hb)
     | fail)
   go_wp2_with fail
   obtain rfl:nc=ns2:=by rw[aY.out.len,zdt aw.out,aw.out,O.out.1]
   refine za2 (S:=fun w'=>w'.cell? ⟨w1.heap.size,0,none⟩=some (.bool s)∧w'.cell? ⟨w1.heap.size,1,none⟩=some (.slice f x o)∧w'.cell? ⟨w1.heap.size,2,none⟩=some (.slice j u n)∧w'.cell? ⟨by_,k*3,none⟩=some (.bool U)∧w'.cell? ⟨by_,k*3+1,none⟩=some (.slice L V P)∧w'.cell? ⟨by_,k*3+2,none⟩=some (.slice M X T)∧w'.cell? ⟨wr.heap.size,0,none⟩=some (.slice Q nc r)∧w'.cell? ⟨wr.heap.size,2,none⟩=some (.bool g)∧w'.cell? ⟨wr.heap.size,3,none⟩=some (.slice A m c)∧w'.cell? ⟨wr.heap.size,4,none⟩=some (.slice D t l)) 11 (h:=fun hHeld=>?_)
   refine zaw [0,1,2,3,4,5,6,7] ?_;repeat refine tkE (hS:=hHeld) (h:=?_)
   refine zao ?_;refine zaN 8 (h:=fun K E=>?_);go_simp
   (go_at_call 14;(with_reducible refine(Rt.mul U L V P M X T q g A m c D t l p.rhs _ ci.out.drew ce.out.drew L1.out).mono ?_);rintro e v2 ⟨g3,A3,m3,c3,D3,md3,cd3,rfl,hn,hb⟩;have bj:=hid (zad hb bg.out);have bk:=hid (zad hb bh.out);have bp:=hid (zad hb bo.out);have ca:=hid (b9.out.drew.below hb);have cG:=hid (cx.out.drew.below hb);have cO:=hid (aY.out.drew.below hb);have HM:=hid (show RatS v2 g3 (.slice A3 m3 c3) (.slice D3 md3 cd3) (q*p.rhs)from hn);obtain⟨d5,dN,d6,dO⟩:=bc2 bj.out;obtain⟨eW,ek,eM,er,eY,em,eN,es,e6,eF,eO,eu⟩:=bf3 bk.out;obtain⟨fo,eJ,fk,eQ,fp,eK,fl,eR,fq,eL,fm,eS⟩:=bf3 bp.out;have bq:=zab hb bV;have c5:=zaa bq;have br:=zab hb bX;have c8:=zaa br;have bs:=zab hb bZ;have db:=zaa bs;have bt:=zab hb b1;have dd:=zaa bt;have bu:=zab hb b3;have df:=zaa bu;have bv:=zab hb b5;have dh:=zaa bv;have bz:=zab hb b7;have dj:=zaa bz;clear hn hb)
   (try go_wp2_with fail)
   refine E.out _ _ kp fun hHeld=>?_
   clear E K;try simp only[Act.put,pu1,pu2,pu3,pu4,pu5,pu6]
   refine zaN 9 (h:=fun K E=>?_);go_simp
   (go_at_call 73;(with_reducible refine(Rt.add s f x o j u n (zPV y rows k) g3 A3 m3 c3 D3 md3 cd3 (q*p.rhs) _ ca.out HM.out L2.out).mono ?_);rintro e v3 ⟨g4,A4,m4,c4,D4,md4,cd4,rfl,hn,hb⟩;have ck:=hid (zad hb bj.out);have cz:=hid (zad hb bk.out);have ar:=hid (zad hb bp.out);have ch:=hid (cG.out.below hb);have cP:=hid (cO.out.below hb);have HS:=hid (show RatS v3 g4 (.slice A4 m4 c4) (.slice D4 md4 cd4) (zPV y rows k+q*p.rhs)from hn);obtain⟨eT,ey,eU,ei⟩:=bc2 ck.out;obtain⟨fr,e8,fz,fe,fs,e9,fA,ff,fF,fn,fB,fg⟩:=bf3 cz.out;obtain⟨ft,fa,fC,fh,fu,fb,fD,fi,fv,fc,fE,fj⟩:=bf3 ar.out;have cE:=zab hb bq;have c6:=zaa cE;have cI:=zab hb br;have c9:=zaa cI;have cJ:=zab hb bs;have dc:=zaa cJ;have cK:=zab hb bt;have de:=zaa cK;have cL:=zab hb bu;have dg:=zaa cL;have cM:=zab hb bv;have di:=zaa cM;have cN:=zab hb bz;have dk:=zaa cN;clear hn hb)
   (try go_wp2_with fail)
   refine E.out _ _ kp fun hHeld=>?_
   clear E K;try simp only[Act.put,pu1,pu2,pu3,pu4,pu5,pu6]
   refine zaw [10] ?_;repeat refine tkE (hS:=hHeld) (h:=?_)
   refine zao ?_;refine zba (h:=fun K E=>?_);go_simp;refine E.out _ _ ?_;clear E K;try simp only[Act.put,pu1,pu2,pu3,pu4,pu5,pu6]
   refine za1 (h:=?_)
   all_goals
    go_wp2;go_roundw
    case rel=>exact⟨k+1,S2,cs2,g4,A4,m4,c4,D4,md4,cd4,by go_num,rfl,by omega,by rw[zQg HP.out HQ.out];exact(VecS.set3 cP.out ar.out (by decide) bQ 0 1 2 _ _ _).base (by omega),zar _ (zar _ (zar _ ar.out)),by rw[zQd HP.out HQ.out];exact HS.out.set3 ar.out (by decide) _ _ _,(Bel.set3 ch.out (Nat.le_refl _) _ _ _).b⟩
    case measure=>simp[intOf];omega
  ·have bN:k=nr:=by omega
   have J:=hid (zad a am.out);have B:=hid (zad a ac.out);have be:=hid (aR.out.below a);have bd:=hid (av.out.below a);have bx:=hid (au.out.below a);have bc:=hid (HO.out.below a);have HV:=hid (show VecS wr W.heap.size (.slice S nc cs) (zPA nc y rows k)from hV);have ax:=hid (show RatS wr s (.slice f x o) (.slice j u n) (zPV y rows k)from hP);have aM:=hid (Z.out.trans ((a).mono Z.out.size));obtain⟨aI,aG,aJ,aH⟩:=bc2 J.out;obtain⟨ao,al,aK,aN,ap,ak,aO,aL,aq,an,aQ,aP⟩:=bf3 B.out;have af:=hid ai
   obtain⟨aI,aG,aJ,aH⟩:=bc2 J.out;obtain⟨ao,al,aK,aN,ap,ak,aO,aL,aq,an,aQ,aP⟩:=bf3 B.out;obtain⟨eg,ed,eh,ee,eG,d1⟩:=bc3 af.out;clear hV ai hP a;go_wp2_with fail
   go_region
   all_goals
    go_wp2;refine bodyPost_ret (v:=.tuple #[.slice S nc cs,.agg #[.bool s,.slice f x o,.slice j u n],.bool true]) (by simp[results,Tryz.results33,go_sem,ao,al,ap,ak,aq,an]) rfl ?_;have h1:=VecS.set3 HV.out B.out (by decide) (show w.heap.size+1<W.heap.size by have:=HZ.out;omega) 0 1 2 (.bool s) (.slice f x o) (.slice j u n);have h2:=ax.out.set3 B.out (by decide) (.bool s) (.slice f x o) (.slice j u n);rw[bN,HN.out]at h1 h2
    exact⟨_,_,_,_,_,_,_,_,_,_,rfl,(h1.base (by have:=HZ.out;omega)).drew,h2.drew,bdrew (bsc (bsc (bsc aM.out)))⟩
