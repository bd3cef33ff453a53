/- Contracts and lemmas: Prod1. Conditions: as each says. -/
import Derived.Test.YtbhfhkcdfmmmiaaGreatDoorNat2Zd
import Derived.Deep.RegionWith
import Derived.Deep.RegionLaw
set_option linter.all false
set_option maxHeartbeats 1000000
set_option maxRecDepth 100000
namespace Go.Proofs.YtbhfhkcdfmmmiaaGreatDoor
open Go.RowKit Am
open Lib (hid)
attribute [local go_sem ↓] Go.wp_at_zero Go.wp_at_succ
namespace Pr
theorem school(A B:OA)(m c m' c' a b:Nat)(w:World)(S:zas w (A,m,c) a)(T:zas w (B,m',c') b)(X:wlen a+wlen b≤LIM) :
  Calls Tryz.prog 130 #[.agg #[(A,m,c)],.agg #[(B,m',c')]] w (zc0 w (a*b)):=by
 obtain⟨xs,hx,av,rfl,Y,rfl⟩:=S.words;obtain⟨ys,hy,aw,rfl,Z,rfl⟩:=T.words;rw[←Y,←Z]at X;obtain⟨n,hn⟩:∃n,n=xs.length+ys.length:=⟨_,rfl⟩
 have D:=hid hn;have N:=hid hx;have F:=hid hy;have al:=hid (show n≤LIM by omega);have P:=hid (show n≤16*LIM by have:=zaP;omega);have aN:xs.length+ys.length≤9223372036854775806:=by have:=zaP;omega
 have R:(xs.length:Int)+(ys.length:Int)=(n:Int):=by omega
 have am:=hid R;clear hx hy av aw Y Z X S T hn R;have t:(((w.alloc (.cells #[(A,xs.length,c)] 45)).alloc (.cells #[(B,ys.length,c')] 45)).alloc (.cells #[()] 45)).cell? ⟨w.heap.size,0,none⟩=some (A,xs.length,c) :=
  cell_al (cell_al (zax rfl rfl))
 have g:(((w.alloc (.cells #[(A,xs.length,c)] 45)).alloc (.cells #[(B,ys.length,c')] 45)).alloc (.cells #[()] 45)).cell? ⟨w.heap.size+1,0,none⟩=some (B,ys.length,c') :=
  cell_al (zax (by simp) rfl)
 have E:=hid (((N.out.alloc (.cells #[(A,xs.length,c)] 45)).alloc (.cells #[(B,ys.length,c')] 45)).alloc (.cells #[()] 45));have G:=hid (((F.out.alloc (.cells #[(A,xs.length,c)] 45)).alloc (.cells #[(B,ys.length,c')] 45)).alloc (.cells #[()] 45));go_enter Tryz.func130,Tryz.ntmps130;go_wp2_with fail
 have L:IntKind.i64.wrap ((xs.length:Int)+(ys.length:Int))=(n:Int):=by have h1:=am.out;have h2:=IntWalk.i64_in (n:Int) (by omega);rw[h1,h2]
 have zm:=zyv n P.out
 go_region_held3 (fun w'=>w'.cell? ⟨w.heap.size,0,none⟩=some (A,xs.length,c)∧w'.cell? ⟨w.heap.size+1,0,none⟩=some (B,ys.length,c'))
  (first | ((try go_split_ands);(try simp only[World.cell?_drew]);(repeat' apply And.intro)<;>(first | assumption | exact cell_al (by assumption) | exact cell_al (cell_al (by assumption)))) | go_keep)
  (first
   | (go_at_call 129;(with_reducible refine(Nt.len (A,xs.length,c) xs _ ?_).mono ?_);(exact E.out.drew);rintro e w' ⟨rfl,rfl⟩)
   | (go_at_call 129;(with_reducible refine(Nt.len (B,ys.length,c') ys _ ?_).mono ?_);(exact(G.out.alloc _).drew);rintro e w' ⟨rfl,rfl⟩))
 clear L zm t g;have k0:(((((w.alloc (.cells #[(A,xs.length,c)] 45)).alloc (.cells #[(B,ys.length,c')] 45)).alloc (.cells #[()] 45)).alloc (.cells #[(A,xs.length,c)] 45)).alloc (.cells #[(B,ys.length,c')] 45)).cell? ⟨w.heap.size,0,none⟩=some (A,xs.length,c):=cell_al (cell_al (cell_al (cell_al (zax rfl rfl))))
 have y:(((((w.alloc (.cells #[(A,xs.length,c)] 45)).alloc (.cells #[(B,ys.length,c')] 45)).alloc (.cells #[()] 45)).alloc (.cells #[(A,xs.length,c)] 45)).alloc (.cells #[(B,ys.length,c')] 45)).cell? ⟨w.heap.size+1,0,none⟩=some (B,ys.length,c'):=cell_al (cell_al (cell_al (zax (by simp) rfl)))
 have k2:(((((w.alloc (.cells #[(A,xs.length,c)] 45)).alloc (.cells #[(B,ys.length,c')] 45)).alloc (.cells #[()] 45)).alloc (.cells #[(A,xs.length,c)] 45)).alloc (.cells #[(B,ys.length,c')] 45)).heap[w.heap.size+1+1]? = some (.cells #[()] 45 (0,0)):=zak (zak (zam (by simp)))
 have kb:Below w.heap.size w (((((w.alloc (.cells #[(A,xs.length,c)] 45)).alloc (.cells #[(B,ys.length,c')] 45)).alloc (.cells #[()] 45)).alloc (.cells #[(A,xs.length,c)] 45)).alloc (.cells #[(B,ys.length,c')] 45)):=((((zae w _).alloc (by simp) _).alloc (by simp;omega) _).alloc (by simp;omega) _).alloc (by simp;omega) _
 have K:(((((w.alloc (.cells #[(A,xs.length,c)] 45)).alloc (.cells #[(B,ys.length,c')] 45)).alloc (.cells #[()] 45)).alloc (.cells #[(A,xs.length,c)] 45)).alloc (.cells #[(B,ys.length,c')] 45)).heap.size=w.heap.size+1+1+1+1+1:=by simp
 have O:=hid ((E.out.alloc (.cells #[(A,xs.length,c)] 45)).alloc (.cells #[(B,ys.length,c')] 45));have H:=hid ((G.out.alloc (.cells #[(A,xs.length,c)] 45)).alloc (.cells #[(B,ys.length,c')] 45))
 have ho:OutAt (((((w.alloc (.cells #[(A,xs.length,c)] 45)).alloc (.cells #[(B,ys.length,c')] 45)).alloc (.cells #[()] 45)).alloc (.cells #[(A,xs.length,c)] 45)).alloc (.cells #[(B,ys.length,c')] 45)) ((((((w.alloc (.cells #[(A,xs.length,c)] 45)).alloc (.cells #[(B,ys.length,c')] 45)).alloc (.cells #[()] 45)).alloc (.cells #[(A,xs.length,c)] 45)).alloc (.cells #[(B,ys.length,c')] 45)).alloc (.cells (zrow n) 184)).drew (w.heap.size+1+1+1+1+1) n (List.replicate n 0):=by
  have:=(zn5 (((((w.alloc (.cells #[(A,xs.length,c)] 45)).alloc (.cells #[(B,ys.length,c')] 45)).alloc (.cells #[()] 45)).alloc (.cells #[(A,xs.length,c)] 45)).alloc (.cells #[(B,ys.length,c')] 45)) n P.out).drew
  rwa [K]at this
 clear E G;generalize hw1:((((((w.alloc (.cells #[(A,xs.length,c)] 45)).alloc (.cells #[(B,ys.length,c')] 45)).alloc (.cells #[()] 45)).alloc (.cells #[(A,xs.length,c)] 45)).alloc (.cells #[(B,ys.length,c')] 45)).alloc (.cells (zrow n) 184)).drew=w1 at *
 clear hw1;generalize hW0:(((((w.alloc (.cells #[(A,xs.length,c)] 45)).alloc (.cells #[(B,ys.length,c')] 45)).alloc (.cells #[()] 45)).alloc (.cells #[(A,xs.length,c)] 45)).alloc (.cells #[(B,ys.length,c')] 45))=W at *
 clear hW0;have o:=hid ho;have ah:=hid k2;have aj:=hid kb;have j:=hid K;clear ho k2 kb K;have t:=o.out.old (by omega) k0;have g:=o.out.old (by omega) y;go_wp2_with (go_at_call 129;(with_reducible refine(Nt.len (A,xs.length,c) xs _ ?_).mono ?_);(exact o.out.keep O.out (by rw[j.out];exact Nat.le_refl _));rintro e w' ⟨rfl,rfl⟩)
 have aq:=hid (o.out.alloc (.cells #[(A,xs.length,c)] 45));clear t g o;generalize w1.alloc (.cells #[(A,xs.length,c)] 45)=w2 at *
 go_loopw [17] (fun i wr=>∃(p:Nat) (os:List Nat),i=.int .i64 p∧p≤xs.length∧SchInv xs ys os p∧OutAt W wr (w.heap.size+1+1+1+1+1) n os) (fun i _=>xs.length-(intOf i).toNat)
 case atStart=>exact⟨0,_,rfl,Nat.zero_le _,SchInv.start xs ys n,aq.out⟩
 case round =>
  obtain⟨p,os,rfl,hp,Q,d⟩:=hrel;have s:=hid Q;clear Q;by_cases aM:p<xs.length
  ·have l:=hid (d.keep H.out (by rw[j.out];exact Nat.le_refl _));have g:=d.old (by omega) y;have f:=hid d;clear d;go_wp2_with (go_at_call 129;(with_reducible refine(Nt.len (B,ys.length,c') ys _ ?_).mono ?_);(exact l.out);rintro e w' ⟨rfl,rfl⟩)
   have ar:=hid (f.out.alloc (.cells #[(B,ys.length,c')] 45));clear g l f;generalize wr.alloc (.cells #[(B,ys.length,c')] 45)=wo at *
   go_loopw [7,22] (fun ov k aG=>∃(q V:Nat) (z:List Nat),k=.int .i64 q∧ov=.int .u64 V∧q≤ys.length∧MulInv (nval os) ys z p (wd xs p) q V∧OutAt W aG (w.heap.size+1+1+1+1+1) n z)
    (fun _ k _=>ys.length-(intOf k).toNat)
   case atStart=>exact⟨0,0,os,rfl,rfl,Nat.zero_le _,s.out.enter _,ar.out⟩
   case round =>
    obtain⟨q,V,z,rfl,rfl,hq,I,d⟩:=hrel;have C:=hid I;have hV:=I.ovr;clear I;by_cases aB:q<ys.length
    ·have au:=hid (d.keep O.out (by rw[j.out];exact Nat.le_refl _));have l:=hid (d.keep H.out (by rw[j.out];exact Nat.le_refl _));have t:=d.old (by omega) k0;have g:=d.old (by omega) y;have x:p+q<n:=by have:=D.out;omega
     have u:=d.cell x;have J:=d.fro (p+q);have r:=d.lt;have aC:=zdM N.out.2 p;have aT:=zdM F.out.2 q;have aO:=zdM C.out.wds (p+q);have aQ:(0:Int)≤(p:Int):=Int.natCast_nonneg _;have aS:(0:Int)≤(q:Int):=Int.natCast_nonneg _;have ax:(0:Int)≤(p:Int)+(q:Int):=by omega
     have ay:(p:Int)+(q:Int)<(n:Int):=by omega
     have az:((p:Int)+(q:Int)).toNat=p+q:=by omega
     have q1:=cell_al (ob:=.cells #[(B,ys.length,c')] 45) (cell_al (ob:=.cells #[(A,xs.length,c)] 45) u);have aE:=cell_al (ob:=.cells #[(A,xs.length,c)] 45) u;have q2:=zd1 (ob:=.cells #[(B,ys.length,c')] 45) (zxk (ob:=.cells #[(A,xs.length,c)] 45) r) (zd1 (ob:=.cells #[(A,xs.length,c)] 45) r J);have b1:=cell_al (ob:=.cells #[(A,xs.length,c)] 45) g;have f:=hid d;clear d;go_wp2_with fail
     have L:IntKind.i64.wrap ((p:Int)+(q:Int))=(p:Int)+(q:Int):=IntWalk.i64_in _ (by omega)
     go_region_with (first
      | (go_at_call 145;(with_reducible refine(Nt.word (A,xs.length,c) xs _ (by assumption) _ ?_).mono ?_);(exact au.out.drew);rintro e w' ⟨rfl,rfl⟩)
      | (go_at_call 145;(with_reducible refine(Nt.word (B,ys.length,c') ys _ (by assumption) _ ?_).mono ?_);(exact(l.out.alloc _).drew);rintro e w' ⟨rfl,rfl⟩)
      | (go_at_call 144;(with_reducible refine(Word.mulAdd (wd xs p) (wd ys q) (wd z (p+q)) V (by assumption) (by assumption) (by assumption) (by assumption) _).mono ?_);rintro e w' ⟨rfl,rfl⟩))
     all_goals (clear L;go_wp2;go_roundw)
     all_goals first
      | exact⟨q+1,_,_,by go_num,rfl,by omega,C.out.next aC F.out.2 aB (by rw[f.out.len];have:=D.out;omega),(((f.out.alloc _).alloc _).store (p+q) _).drew⟩
      | (simp[intOf];omega)
    ·have aA:q=ys.length:=by omega
     subst aA;have l:=hid (d.keep H.out (by rw[j.out];exact Nat.le_refl _));have g:=d.old (by omega) y;have x:p+ys.length<n:=by have:=D.out;omega
     have u:=d.cell x;have J:=d.fro (p+ys.length);have r:=d.lt;have ax:(0:Int)≤(p:Int)+(ys.length:Int):=by omega
     have ay:(p:Int)+(ys.length:Int)<(n:Int):=by omega
     have az:((p:Int)+(ys.length:Int)).toNat=p+ys.length:=by omega
     have aE:=cell_al (ob:=.cells #[(B,ys.length,c')] 45) u;have aW:=zd1 (ob:=.cells #[(B,ys.length,c')] 45) r J;have f:=hid d;clear d;go_wp2_with (go_at_call 129;(with_reducible refine(Nt.len (B,ys.length,c') ys _ ?_).mono ?_);(exact l.out);rintro e w' ⟨rfl,rfl⟩)
     exact⟨⟨p+1,_,by go_num,by omega,s.out.next C.out (by rw[f.out.len];exact x),(f.out.store (p+ys.length) V).alloc _⟩,by simp[intOf];omega⟩
  ·obtain rfl:p=xs.length:=by omega
   have hv:=s.out.done (Nat.le_refl _);have hs:=d.sw s.out.wds;have U:=d.bel;have HV:=hid hv;have HS:=hid hs;have M:=hid U;have r:=d.lt;have aL:=j.out;have ak:=hid d.len;clear hv hs U d;go_wp2_with fail
   refine(Nt.of _ os _ HS.out.reads (by rw[ak.out];exact al.out)).mono ?_;rintro e w3 ⟨A2,m2,c2,rfl,hs2,hb2⟩;have hk:=zad hb2 ((M.out.block (w.heap.size+1+1) (by omega)).trans ah.out);have hc:w3.cell? ⟨w.heap.size+1+1,0,none⟩=some ():=zac hk 0;have hf:=zag hk 0;have ai:=hid hk;have h1:=hb2.size;clear hk;go_wp2;refine bodyPost_ret (v:=.agg #[(A2,m2,c2)]) (by simp[results,Tryz.results130,go_sem,hc]) rfl ?_;rw[HV.out]at hs2
   refine⟨_,_,_,rfl,hs2.setCell (p:=⟨w.heap.size+1+1,0,none⟩) ai.out (by decide) _,Below.setCell ?_ (by simp;omega) _⟩;exact bstep (aj.out.trans (M.out.mono (by omega))) hb2 (by omega)
