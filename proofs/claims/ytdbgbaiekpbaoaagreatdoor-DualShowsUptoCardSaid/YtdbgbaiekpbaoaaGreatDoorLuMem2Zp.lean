/- What is taken apart,as it lies in memory while it is changed. Conditions: as each says. -/
import Derived.Test.YtdbgbaiekpbaoaaGreatDoorMat2Zp
import Derived.Test.YtdbgbaiekpbaoaaGreatDoorNat3Zp
set_option linter.all false
namespace Go.Proofs.YtdbgbaiekpbaoaaGreatDoor
open Go.RowKit Am
set_option maxHeartbeats 1000000
set_option maxRecDepth 100000
namespace VecsL
variable {w w':World} {H:Nat} {v:Value} {l:List Value} {L:List (List Rat)}
theorem off (h:VecsL w H v l L) {b o:Nat} {cs:Array Value} (hb:w.heap[b]? = some (.cells cs 26 (0,0))) (hne:v.ownBlock ≠ some b) (u:Value):VecsL (w.setCell ⟨b,o,none⟩ u) H v l L :=
 h.keepAll (fun k hk => Below.heap_setCell _ _ _ _ (by rintro rfl;exact hne hk)) fun _ _ _ r => r.tk (TKeep.set hb u) (by decide) (by decide)
theorem offRat (h:VecsL w H v l L) {b:Nat} {cs:Array Value} (hb:w.heap[b]? = some (.cells cs 35 (0,0))) (hne:∀ s ∈ l,s.ownBlock ≠ some b) (i:Nat) (x y z:Value) :
  VecsL (((w.setCell ⟨b,i * 3,none⟩ x).setCell ⟨b,i * 3 + 1,none⟩ y).setCell ⟨b,i * 3 + 2,none⟩ z) H v l L:=by
 have far:∀ j,j ≠ b → (((w.setCell ⟨b,i * 3,none⟩ x).setCell ⟨b,i * 3 + 1,none⟩ y).setCell ⟨b,i * 3 + 2,none⟩ z).heap[j]? = w.heap[j]?:=fun j hj => by
  rw [Below.heap_setCell _ _ _ _ (by exact hj),Below.heap_setCell _ _ _ _ (by exact hj),Below.heap_setCell _ _ _ _ (by exact hj)]
 exact h.keepAll (fun k hk => far k fun e => za6 h.own (e ▸ hb) (by decide) (e ▸ hk)) fun s r hs hv => hv.keepAll (fun g hg => far g fun e => hne s hs (e ▸ hg)) fun _ _ _ _ q => q.keepT fun j hj hn => far j fun e => hn _ (e ▸ hb)
theorem swap {b n c:Nat} (h:VecsL w H (.slice (some ⟨b,0,none⟩) n c) l L) {i j:Nat} {x y:Value} {r s:List Rat} (hi:l[i]? = some x) (hj:l[j]? = some y) (hr:L[i]? = some r) (hs:L[j]? = some s) :
  VecsL ((w.setCell ⟨b,i,none⟩ y).setCell ⟨b,j,none⟩ x) H (.slice (some ⟨b,0,none⟩) n c) ((l.set i y).set j x) (sw L i j []):=by
 obtain ⟨cs,hb⟩:=h.blk
 have h1:=h.store (List.getElem?_eq_some_iff.1 hr).1 (h.each _ _ _ hj hs)
 have h2:=h1.store (k:=j) (by rw [List.length_set];exact (List.getElem?_eq_some_iff.1 hs).1) ((h.each _ _ _ hi hr).tk (TKeep.set (o:=i) hb y) (by decide) (by decide))
 unfold sw
 rw [List.getD_eq_getElem?_getD,List.getD_eq_getElem?_getD,hr,hs]
 exact h2
end VecsL
theorem zrV {α:Type} {l:List α} {i j:Nat} {x y:α} (hi:l[i]? = some x) (hj:l[j]? = some y) (k:Nat):((l.set i y).set j x)[k]? = l[tw i j k]?:=by
 have h1:=(List.getElem?_eq_some_iff.1 hi).1
 have h2:=(List.getElem?_eq_some_iff.1 hj).1
 unfold tw
 rw [List.getElem?_set,List.length_set,List.getElem?_set]
 by_cases e:j = k
 ·subst e;simp [h2,hi]
 ·rw [if_neg e,if_neg (Ne.symm e)]
  by_cases e2:i = k
  ·subst e2;simp [h1,hj]
  ·rw [if_neg e2,if_neg (Ne.symm e2)]
theorem zyB {α:Type} {l:List α} {i j:Nat} {x y:α} (hi:l[i]? = some x) (hj:l[j]? = some y) {a:α} (h:a ∈ (l.set i y).set j x):a ∈ l:=by
 obtain ⟨k,hk⟩:=List.mem_iff_getElem?.1 h
 rw [zrV hi hj] at hk
 exact List.mem_of_getElem? hk
theorem zbG.sw {l:List Value} (h:zbG l) {i j:Nat} {x y:Value} (hi:l[i]? = some x) (hj:l[j]? = some y):zbG ((l.set i y).set j x):=by
 intro a b u v g h1 h2 h3 h4
 rw [zrV hi hj] at h1 h2
 have:=h _ _ _ _ _ h1 h2 h3 h4
 rw [← zxO i j a,this,zxO]
theorem IntsS.swap {w:World} {H b n c:Nat} {xs:List Nat} (h:IntsS w H (.slice (some ⟨b,0,none⟩) n c) xs) {i j x y:Nat} (hi:xs[i]? = some x) (hj:xs[j]? = some y) :
  IntsS ((w.setCell ⟨b,i,none⟩ (.int .i64 (y:Int))).setCell ⟨b,j,none⟩ (.int .i64 (x:Int))) H (.slice (some ⟨b,0,none⟩) n c) (Am.sw xs i j 0):=by
 have:=(h.store i y).store j x
 unfold Am.sw
 rw [List.getD_eq_getElem?_getD,List.getD_eq_getElem?_getD,hi,hj]
 exact this
theorem IntsS.blk {w:World} {H b n c:Nat} {xs:List Nat} (h:IntsS w H (.slice (some ⟨b,0,none⟩) n c) xs):∃ cs,w.heap[b]? = some (.cells cs 3 (0,0)):=by
 rcases h.own.2 with ⟨hv,_⟩ | ⟨g,cap,cur,hv,_,hh,_⟩
 ·cases hv
 ·injection hv with e1;injection e1 with e1;injection e1 with e1;subst e1;exact ⟨_,hh⟩
structure LuP (w:World) (H q n lb lc:Nat) (ll:List Value) (ub uc:Nat) (ul:List Value) (pb pc:Nat) (F:LUv):Prop where
  blk:w.heap[q]? = some (.cells #[.slice (some ⟨lb,0,none⟩) n lc, .slice (some ⟨ub,0,none⟩) n uc, .slice (some ⟨pb,0,none⟩) n pc, .bool F.odd] 263 (0,0))
  lo:VecsL w H (.slice (some ⟨lb,0,none⟩) n lc) ll F.lo
  la:zbG ll
  up:VecsL w H (.slice (some ⟨ub,0,none⟩) n uc) ul F.up
  ua:zbG ul
  rows:∀ a ∈ ll, ∀ b ∈ ul, ∀ g,a.ownBlock = some g → b.ownBlock ≠ some g
  sep:lb ≠ ub
  perm:IntsS w H (.slice (some ⟨pb,0,none⟩) n pc) F.perm
  own:H ≤ q
namespace LuP
variable {w w':World} {H q n lb lc:Nat} {ll:List Value} {ub uc:Nat} {ul:List Value} {pb pc:Nat} {F:LUv}
theorem below (h:LuP w H q n lb lc ll ub uc ul pb pc F) (hb:Below w.heap.size w w'):LuP w' H q n lb lc ll ub uc ul pb pc F :=
 ⟨by rw [hb.block q (Array.getElem?_eq_some_iff.1 h.blk).1];exact h.blk,h.lo.below hb,h.la,h.up.below hb,h.ua,h.rows,h.sep,h.perm.below hb,h.own⟩
theorem alloc (h:LuP w H q n lb lc ll ub uc ul pb pc F) (o:Obj):LuP (w.alloc o) H q n lb lc ll ub uc ul pb pc F:=h.below (zae w o)
theorem drew (h:LuP w H q n lb lc ll ub uc ul pb pc F):LuP w.drew H q n lb lc ll ub uc ul pb pc F:=h.below (zap w 1)
theorem qlt (h:LuP w H q n lb lc ll ub uc ul pb pc F):q < w.heap.size:=(Array.getElem?_eq_some_iff.1 h.blk).1
theorem lbge (h:LuP w H q n lb lc ll ub uc ul pb pc F) (hn:0 < n):H ≤ lb ∧ lb < w.heap.size:=by obtain ⟨g,e,h1,h2⟩:=h.lo.has hn;injection e with e;injection e with e;subst e;exact ⟨h1,h2⟩
theorem ubge (h:LuP w H q n lb lc ll ub uc ul pb pc F) (hn:0 < n):H ≤ ub ∧ ub < w.heap.size:=by obtain ⟨g,e,h1,h2⟩:=h.up.has hn;injection e with e;injection e with e;subst e;exact ⟨h1,h2⟩
theorem pbge (h:LuP w H q n lb lc ll ub uc ul pb pc F) (hn:0 < n):H ≤ pb ∧ pb < w.heap.size:=by obtain ⟨g,e,h1,h2⟩:=h.perm.has hn;injection e with e;injection e with e;subst e;exact ⟨h1,h2⟩
theorem swU (h:LuP w H q n lb lc ll ub uc ul pb pc F) {i j:Nat} {x y:Value} {r s:List Rat} (hi:ul[i]? = some x) (hj:ul[j]? = some y) (hr:F.up[i]? = some r) (hs:F.up[j]? = some s) :
  LuP ((w.setCell ⟨ub,i,none⟩ y).setCell ⟨ub,j,none⟩ x) H q n lb lc ll ub uc ((ul.set i y).set j x) pb pc { F with up:=sw F.up i j [] }:=by
 obtain ⟨cs,hb⟩:=h.up.blk
 have k1:TKeep 26 w (w.setCell ⟨ub,i,none⟩ y):=TKeep.set hb y
 have hb2:=zar (o:=i) y hb
 have k2:TKeep 26 (w.setCell ⟨ub,i,none⟩ y) ((w.setCell ⟨ub,i,none⟩ y).setCell ⟨ub,j,none⟩ x):=TKeep.set hb2 x
 have hne:(Value.slice (some ⟨lb,0,none⟩) n lc).ownBlock ≠ some ub:=by intro e;exact h.sep (by injection e)
 exact ⟨k2.blk (k1.blk h.blk (by decide)) (by decide),(h.lo.off hb hne y).off hb2 hne x,h.la,h.up.swap hi hj hr hs,h.ua.sw hi hj,fun a ha b hb3 => h.rows a ha b (zyB hi hj hb3),h.sep,(h.perm.tk k1 (by decide)).tk k2 (by decide),h.own⟩
theorem swL (h:LuP w H q n lb lc ll ub uc ul pb pc F) {i j:Nat} {x y:Value} {r s:List Rat} (hi:ll[i]? = some x) (hj:ll[j]? = some y) (hr:F.lo[i]? = some r) (hs:F.lo[j]? = some s) :
  LuP ((w.setCell ⟨lb,i,none⟩ y).setCell ⟨lb,j,none⟩ x) H q n lb lc ((ll.set i y).set j x) ub uc ul pb pc { F with lo:=sw F.lo i j [] }:=by
 obtain ⟨cs,hb⟩:=h.lo.blk
 have k1:TKeep 26 w (w.setCell ⟨lb,i,none⟩ y):=TKeep.set hb y
 have hb2:=zar (o:=i) y hb
 have k2:TKeep 26 (w.setCell ⟨lb,i,none⟩ y) ((w.setCell ⟨lb,i,none⟩ y).setCell ⟨lb,j,none⟩ x):=TKeep.set hb2 x
 have hne:(Value.slice (some ⟨ub,0,none⟩) n uc).ownBlock ≠ some lb:=by intro e;exact h.sep (by injection e with e;exact e.symm)
 exact ⟨k2.blk (k1.blk h.blk (by decide)) (by decide),h.lo.swap hi hj hr hs,h.la.sw hi hj,(h.up.off hb hne y).off hb2 hne x,h.ua,fun a ha b hb3 => h.rows a (zyB hi hj ha) b hb3,h.sep,(h.perm.tk k1 (by decide)).tk k2 (by decide),h.own⟩
theorem swP (h:LuP w H q n lb lc ll ub uc ul pb pc F) {i j x y:Nat} (hi:F.perm[i]? = some x) (hj:F.perm[j]? = some y) :
  LuP ((w.setCell ⟨pb,i,none⟩ (.int .i64 (y:Int))).setCell ⟨pb,j,none⟩ (.int .i64 (x:Int))) H q n lb lc ll ub uc ul pb pc { F with perm:=sw F.perm i j 0 }:=by
 obtain ⟨cs,hb⟩:=h.perm.blk
 have k1:TKeep 3 w (w.setCell ⟨pb,i,none⟩ (.int .i64 (y:Int))):=TKeep.set hb _
 have hb2:=zar (o:=i) (.int .i64 (y:Int)) hb
 have k2:TKeep 3 (w.setCell ⟨pb,i,none⟩ (.int .i64 (y:Int))) ((w.setCell ⟨pb,i,none⟩ (.int .i64 (y:Int))).setCell ⟨pb,j,none⟩ (.int .i64 (x:Int))):=TKeep.set hb2 _
 exact ⟨k2.blk (k1.blk h.blk (by decide)) (by decide),(h.lo.tk k1 (by decide) (by decide) (by decide)).tk k2 (by decide) (by decide) (by decide),h.la,(h.up.tk k1 (by decide) (by decide) (by decide)).tk k2 (by decide) (by decide) (by decide),h.ua,h.rows,h.sep,h.perm.swap hi hj,h.own⟩
theorem setO (h:LuP w H q n lb lc ll ub uc ul pb pc F) (o:Bool):LuP (w.setCell ⟨q,3,none⟩ (.bool o)) H q n lb lc ll ub uc ul pb pc { F with odd:=o }:=by
 have k1:TKeep 263 w (w.setCell ⟨q,3,none⟩ (.bool o)):=TKeep.set h.blk _
 refine ⟨?_,h.lo.tk k1 (by decide) (by decide) (by decide),h.la,h.up.tk k1 (by decide) (by decide) (by decide),h.ua,h.rows,h.sep,h.perm.tk k1 (by decide),h.own⟩
 have:=zar (o:=3) (.bool o) h.blk
 simpa using this
theorem putL (h:LuP w H q n lb lc ll ub uc ul pb pc F) {k b m c:Nat} {r:List Rat} (hl:ll[k]? = some (.slice (some ⟨b,0,none⟩) m c)) (hL:F.lo[k]? = some r) (i:Nat) {g:Bool} {s d:Value} {x:Rat} (hq:RatS w g s d x) :
  LuP (((w.setCell ⟨b,i * 3,none⟩ (.bool g)).setCell ⟨b,i * 3 + 1,none⟩ s).setCell ⟨b,i * 3 + 2,none⟩ d) H q n lb lc ll ub uc ul pb pc { F with lo:=F.lo.set k (r.set i x) }:=by
 obtain ⟨cs,hb⟩:=(h.lo.each k _ _ hl hL).ratBlk
 have k1:TKeep 35 w (w.setCell ⟨b,i * 3,none⟩ (.bool g)):=TKeep.set hb _
 have hb2:=zar (o:=i * 3) (.bool g) hb
 have k2:TKeep 35 (w.setCell ⟨b,i * 3,none⟩ (.bool g)) ((w.setCell ⟨b,i * 3,none⟩ (.bool g)).setCell ⟨b,i * 3 + 1,none⟩ s):=TKeep.set hb2 _
 have hb3:=zar (o:=i * 3 + 1) s hb2
 have k3:TKeep 35 ((w.setCell ⟨b,i * 3,none⟩ (.bool g)).setCell ⟨b,i * 3 + 1,none⟩ s) (((w.setCell ⟨b,i * 3,none⟩ (.bool g)).setCell ⟨b,i * 3 + 1,none⟩ s).setCell ⟨b,i * 3 + 2,none⟩ d):=TKeep.set hb3 _
 exact ⟨k3.blk (k2.blk (k1.blk h.blk (by decide)) (by decide)) (by decide),h.lo.put h.la hl hL i hq,h.la,h.up.offRat hb (fun t ht => h.rows _ (List.mem_of_getElem? hl) t ht b rfl) i _ _ _,h.ua,h.rows,h.sep,((h.perm.tk k1 (by decide)).tk k2 (by decide)).tk k3 (by decide),h.own⟩
theorem putU (h:LuP w H q n lb lc ll ub uc ul pb pc F) {k:Nat} (hk:k < F.up.length) {A:Option Addr} {m c:Nat} {r:List Rat} {B:Nat} (hs:VecS w H (.slice A m c) r) (hf:∀ g,(Value.slice A m c).ownBlock = some g → B ≤ g) (hl:∀ a ∈ ll, ∀ g,a.ownBlock = some g → g < B) (hu:∀ a ∈ ul, ∀ g,a.ownBlock = some g → g < B) :
  LuP (w.setCell ⟨ub,k,none⟩ (.slice A m c)) H q n lb lc ll ub uc (ul.set k (.slice A m c)) pb pc { F with up:=F.up.set k r }:=by
 obtain ⟨cs,hb⟩:=h.up.blk
 have k1:TKeep 26 w (w.setCell ⟨ub,k,none⟩ (.slice A m c)):=TKeep.set hb _
 have hne:(Value.slice (some ⟨lb,0,none⟩) n lc).ownBlock ≠ some ub:=by intro e;exact h.sep (by injection e)
 refine ⟨k1.blk h.blk (by decide),h.lo.off hb hne _,h.la,h.up.store hk hs,h.ua.set fun g j b h1 h2 h3 h4 => ?_,fun a ha b hb2 g h1 h2 => ?_,h.sep,h.perm.tk k1 (by decide),h.own⟩
 ·have:=hf g h1;have:=hu b (List.mem_of_getElem? h3) g h4;omega
 ·rcases List.mem_or_eq_of_mem_set hb2 with h3 | h3
  ·exact h.rows a ha b h3 g h1 h2
  ·subst h3;have:=hf g h2;have:=hl a ha g h1;omega
theorem ltL (h:LuP w H q n lb lc ll ub uc ul pb pc F):∀ a ∈ ll, ∀ g,a.ownBlock = some g → g < w.heap.size:=fun a ha g hg => (h.lo.lt ha hg).2
theorem ltU (h:LuP w H q n lb lc ll ub uc ul pb pc F):∀ a ∈ ul, ∀ g,a.ownBlock = some g → g < w.heap.size:=fun a ha g hg => (h.up.lt ha hg).2
end LuP
def LuQ (w:World) (H q n:Nat) (F:LUv):Prop := ∃ lb lc ll ub uc ul pb pc,LuP w H q n lb lc ll ub uc ul pb pc F
theorem LuQ.toS {w:World} {H q n:Nat} {F:LUv} (h:LuQ w H q n F) (hs:Sq n F):LuS w H q n F:=by
 obtain ⟨lb,lc,ll,ub,uc,ul,pb,pc,h⟩:=h
 exact ⟨⟨_,lc,ll,_,uc,ul,_,pc,h.blk,h.lo,h.la,h.up,h.ua,h.rows,h.perm⟩,h.own,hs⟩
def clr (F:LUv) (c t:Nat):LUv:={ F with lo:=(zaT c F.lo F.up t).1,up:=(zaT c F.lo F.up t).2 }
theorem zwC (F:LUv) (c t:Nat):clr F c (t + 1) = ({ clr F c t with lo:=(clr F c t).lo.set (c + 1 + t) (((clr F c t).lo.getD (c + 1 + t) []).set c (en (clr F c t).up (c + 1 + t) c / en (clr F c t).up c c)),up:=(clr F c t).up.set (c + 1 + t) (zly ((clr F c t).up.getD (c + 1 + t) []) (-(en (clr F c t).up (c + 1 + t) c / en (clr F c t).up c c)) ((clr F c t).up.getD c [])) }:LUv):=rfl
theorem zxH {n:Nat} {F:LUv} (s:Sq n F) (c k:Nat):F.step c k = clr (F.turn c k) c (n - (c + 1)):=by
 unfold LUv.step clr;rw [s.ul]
theorem zC8 {n:Nat} {F:LUv} (s:Sq n F) {c:Nat} (hc:c < n) (t:Nat) (ht:c + 1 + t ≤ n):Sq n (clr F c t):=by
 obtain ⟨⟨h1,h2,h3,h4⟩,_⟩:=zfU c n F.lo F.up s.ll s.lr s.ul s.ur hc t ht
 exact ⟨h1,h2,h3,h4,s.pl⟩
theorem zz5 {n:Nat} {F:LUv} (s:Sq n F) {c:Nat} (hc:c < n) (t:Nat) (ht:c + 1 + t < n):(∀ j,j < n → en (clr F c t).up (c + 1 + t) j = en F.up (c + 1 + t) j) ∧ ∀ j,j < n → en (clr F c t).up c j = en F.up c j:=by
 obtain ⟨_,h,_⟩:=zfU c n F.lo F.up s.ll s.lr s.ul s.ur hc t (by omega)
 exact ⟨fun j hj => by show en (zaT c F.lo F.up t).2 _ _ = _;rw [h _ ht _ hj,if_neg (by omega)],fun j hj => by show en (zaT c F.lo F.up t).2 _ _ = _;rw [h _ hc _ hj,if_neg (by omega)]⟩
end Go.Proofs.YtdbgbaiekpbaoaaGreatDoor
