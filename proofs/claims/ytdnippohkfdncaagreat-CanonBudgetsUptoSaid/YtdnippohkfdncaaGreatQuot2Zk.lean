/- Contracts and lemmas: Quot2 Quot3 Quot4. Conditions: as each says. -/
import Derived.Test.YtdnippohkfdncaaGreatProd2Zk
set_option linter.all false
set_option maxHeartbeats 1000000
set_option maxRecDepth 100000
namespace Go.Proofs.YtdnippohkfdncaaGreat
open Go.RowKit Am
open Lib (hid)
attribute [local go_sem ↓] Go.wp_at_zero Go.wp_at_succ
namespace Qt
theorem zhR(q v0 r u0:Nat)(h0:u0<18446744073709551616):(zdw q v0 0 0<r∨zdw q v0 0 0=r∧zdo q v0 0 0≤u0)↔q*v0≤r*B64+u0:=by
 unfold zdw zdo;simp only[Nat.add_zero];generalize q*v0=P;have:=Nat.div_add_mod P B64;have a:B64=18446744073709551616:=rfl;have b:=Nat.mod_lt P (show 0<B64 by decide);rw[a]at *
 omega
theorem zmQ{x y:Nat}(h:(((zlD x y 0:Nat):Int) == 1)=true):B64≤x+y:=by
 have h1:zlD x y 0=1:=by have:=eq_of_beq h;omega
 unfold zlD at h1;have a:B64=18446744073709551616:=rfl;rw[a]at h1 ⊢;omega
theorem zpz{x y:Nat}(c:x<18446744073709551616)(d:y<18446744073709551616)(h:(((zlD x y 0:Nat):Int) == 1)=false):zjj x y 0=x+y∧x+y<18446744073709551616:=by
 have h1:¬zlD x y 0=1:=by have:=ne_of_beq_false h;omega
 unfold zlD at h1;unfold zjj;have a:B64=18446744073709551616:=rfl;rw[a]at h1 ⊢;have b:(x+y+0)/18446744073709551616=0:=by omega
 omega
theorem zdN{q:Nat}(h:0<q)(a:q<18446744073709551616):IntKind.u64.wrap ((q:Int)-1)=((q-1:Nat):Int):=by
 rw[IntKind.wrap_u64];omega
theorem guess(u2 u1 u0 v1 v0:Nat)(w:World)(x:u2≤v1)(h1:u1<18446744073709551616)(h0:u0<18446744073709551616)(y:9223372036854775808≤v1)(i:v1<18446744073709551616)(c:v0<18446744073709551616) :
    Calls Tryz.prog 182 #[.int .u64 (u2:Int),.int .u64 (u1:Int),.int .u64 (u0:Int),.int .u64 (v1:Int),.int .u64 (v0:Int)] w fun e w'=>(∃q:Nat,e=.returned (.int .u64 (q:Int))∧GuessIs u2 u1 u0 v1 v0 q)∧∃n,w'=w.drewN n:=by
  rcases Nat.lt_or_ge u2 v1 with hlt | hge
  · have k:=hid (GuessInv.start u2 u1 u0 v1 v0 hlt h1 h0);go_enter Tryz.func182,Tryz.ntmps182
    go_wp2_with (first
      | (go_at_call 188;(refine(Word.div_ok u2 u1 v1 hlt h1 i _).mono ?_);rintro e w' ⟨rfl,nd,rfl⟩))
    go_loopw [11,12] (fun j t wr=>∃(q r n:Nat),j=.int .u64 (q:Int)∧t=.int .u64 (r:Int)∧GuessInv u2 u1 u0 v1 v0 q r∧r<18446744073709551616∧wr=w.drewN n) (fun j _ _=>(intOf j).toNat)
    case atStart=>exact⟨_,_,nd,rfl,rfl,k.out,by unfold zBV;exact Nat.lt_of_lt_of_le (Nat.mod_lt _ (by omega)) (by omega),rfl⟩
    case round =>
      obtain⟨q,r,n,rfl,rfl,d,hr,rfl⟩:=hrel;have b:=d.lt;have m:=hid d;clear d k;by_cases hc:q*v0≤r*B64+u0
      · have s:=hid (m.out.done c (.inl hc));have p:=(zhR q v0 r u0 h0).2 hc;clear hc
        go_wp2_with (first
          | (go_at_call 175;(refine(Word.mul q v0 b c _).mono ?_);rintro e w' ⟨rfl,rfl⟩))
        all_goals first
          | exact bodyPost_ret (v:=.int .u64 (q:Int)) (by simp[results,Tryz.results182,go_sem]) rfl ⟨⟨q,rfl,s.out⟩,n,rfl⟩
          | (exfalso;omega)
      · have f:=m.out.down (by omega);have g:=f.2;have l:=hid f.1;have p:¬(zdw q v0 0 0<r∨zdw q v0 0 0=r∧zdo q v0 0 0≤u0):=fun h=>hc ((zhR q v0 r u0 h0).1 h)
        clear hc f
        go_wp2_with (first
          | (go_at_call 175;(refine(Word.mul q v0 b c _).mono ?_);rintro e w' ⟨rfl,rfl⟩)
          | (go_at_call 158;(refine(Word.add r v1 0 hr i (by decide) _).mono ?_);rintro e w' ⟨rfl,rfl⟩))
        all_goals first
          | (have a:=zmQ (by assumption)
             exact bodyPost_ret (v:=.int .u64 (IntKind.u64.wrap ((q:Int)-1))) (by simp[results,Tryz.results182,go_sem]) rfl ⟨⟨q-1,by rw[zdN g b],l.out.done c (.inr a)⟩,n,rfl⟩)
          | (have a:=zpz hr i (by assumption)
             refine⟨⟨q-1,r+v1,n,by rw[zdN g b],by rw[a.1],l.out,a.2,rfl⟩,?_⟩;rw[zdN g b];simp only[intOf];omega)
  · have u:u2=v1:=by omega
    have k:=hid (show GuessInv u2 u1 u0 v1 v0 (B64-1) (u1+v1)by rw[u];exact GuessInv.start' u1 u0 v1 v0);clear u;go_enter Tryz.func182,Tryz.ntmps182
    go_wp2_with (first
      | (go_at_call 188;(refine(Word.div_no u2 u1 v1 hge _).mono ?_);rintro e w' ⟨rfl,rfl⟩)
      | (go_at_call 158;(refine(Word.add u1 v1 0 h1 i (by decide) _).mono ?_);rintro e w' ⟨rfl,rfl⟩))
    · have a:=zmQ (by assumption);exact bodyPost_ret (v:=.int .u64 18446744073709551615) (by simp[results,Tryz.results182,go_sem]) rfl ⟨⟨B64-1,rfl,k.out.done c (.inr a)⟩,0,rfl⟩
    · have o:(((zlD u1 v1 0:Nat):Int) == 1)=false:=by assumption
      have a:=hid (zpz h1 i o);simp only[o];clear o;go_loopw [11,12] (fun j t wr=>∃(q r n:Nat),j=.int .u64 (q:Int)∧t=.int .u64 (r:Int)∧GuessInv u2 u1 u0 v1 v0 q r∧r<18446744073709551616∧wr=w.drewN n) (fun j _ _=>(intOf j).toNat)
      case atStart=>exact⟨B64-1,u1+v1,0,rfl,by rw[a.out.1],k.out,a.out.2,rfl⟩
      case round =>
        obtain⟨q,r,n,rfl,rfl,d,hr,rfl⟩:=hrel;have b:=d.lt;have m:=hid d;clear d k;by_cases hc:q*v0≤r*B64+u0
        · have s:=hid (m.out.done c (.inl hc));have p:=(zhR q v0 r u0 h0).2 hc;clear hc
          go_wp2_with (first
            | (go_at_call 175;(refine(Word.mul q v0 b c _).mono ?_);rintro e w' ⟨rfl,rfl⟩))
          all_goals first
            | exact bodyPost_ret (v:=.int .u64 (q:Int)) (by simp[results,Tryz.results182,go_sem]) rfl ⟨⟨q,rfl,s.out⟩,n,rfl⟩
            | (exfalso;omega)
        · have f:=m.out.down (by omega);have g:=f.2;have l:=hid f.1;have p:¬(zdw q v0 0 0<r∨zdw q v0 0 0=r∧zdo q v0 0 0≤u0):=fun h=>hc ((zhR q v0 r u0 h0).1 h)
          clear hc f
          go_wp2_with (first
            | (go_at_call 175;(refine(Word.mul q v0 b c _).mono ?_);rintro e w' ⟨rfl,rfl⟩)
            | (go_at_call 158;(refine(Word.add r v1 0 hr i (by decide) _).mono ?_);rintro e w' ⟨rfl,rfl⟩))
          all_goals first
            | (have a:=zmQ (by assumption)
               exact bodyPost_ret (v:=.int .u64 (IntKind.u64.wrap ((q:Int)-1))) (by simp[results,Tryz.results182,go_sem]) rfl ⟨⟨q-1,by rw[zdN g b],l.out.done c (.inr a)⟩,n,rfl⟩)
            | (have a:=zpz hr i (by assumption)
               refine⟨⟨q-1,r+v1,n,by rw[zdN g b],by rw[a.1],l.out,a.2,rfl⟩,?_⟩;rw[zdN g b];simp only[intOf];omega)
end Qt
structure OutC (w w1:World) (H n cp:Nat) (os:List Nat):Prop where
  own:w1.ownsRow H 196 1 (.slice (some ⟨H,0,none⟩) n cp) n (wcells os)
  bel:w.grownBy w1 (some H)
  len:os.length=n
theorem zse{w w1 w2:World}{r:Option Nat}(h:w.grownBy w1 r)(a:Below w1.heap.size w1 w2):w.grownBy w2 r :=
 ⟨a.os.trans h.os,a.tape.trans h.tape,a.output.trans h.output,Nat.le_trans h.size a.size,fun k hk hr=>(a.block k (Nat.lt_of_lt_of_le hk h.size)).trans (h.block k hk hr)⟩
theorem zqf{a b c:World}{r:Option Nat}(h:a.grownBy b r)(k:b.grownBy c r):a.grownBy c r :=
 ⟨k.os.trans h.os,k.tape.trans h.tape,k.output.trans h.output,Nat.le_trans h.size k.size,fun i d hr=>(k.block i (Nat.lt_of_lt_of_le d h.size) hr).trans (h.block i d hr)⟩
namespace OutC
variable {w w1 w2:World} {H n cp:Nat} {os:List Nat}
theorem lt(h:OutC w w1 H n cp os):H<w1.heap.size:=(h.own.lt H rfl).2
theorem step(h:OutC w w1 H n cp os)(a:Below w1.heap.size w1 w2):OutC w w2 H n cp os :=
 ⟨⟨h.own.1,by
   rcases h.own.2 with h2 | ⟨g,cap,cur,hv,hg,hh,r⟩
   ·exact .inl h2
   ·exact .inr ⟨g,cap,cur,hv,hg,by rw[a.block g (Array.getElem?_eq_some_iff.1 hh).1];exact hh,r⟩⟩,zse h.bel a,h.len⟩
theorem alloc(h:OutC w w1 H n cp os)(o:Obj):OutC w (w1.alloc o) H n cp os:=h.step (zae w1 o)
theorem drewN(h:OutC w w1 H n cp os)(k:Nat):OutC w (w1.drewN k) H n cp os:=h.step (zap w1 k)
theorem drew(h:OutC w w1 H n cp os):OutC w w1.drew H n cp os:=h.drewN 1
theorem store(h:OutC w w1 H n cp os)(k v:Nat):OutC w (w1.setCell ⟨H,k,none⟩ (.int .u64 (v:Int))) H n cp (os.set k v) :=
 ⟨by rw[ziN];exact(h.own.stored k _).1,zqf h.bel (h.own.stored k _).2,by rw[List.length_set];exact h.len⟩
theorem cell(h:OutC w w1 H n cp os){k:Nat}(hk:k<n):w1.cell? ⟨H,k,none⟩=some (.int .u64 ((wd os k:Nat):Int)):=by
 rw[h.own.cellAt k (by omega),zeu (by rw[h.len];exact hk)]
theorem fro(h:OutC w w1 H n cp os)(k:Nat):w1.frozen? ⟨H,k,none⟩=false:=h.own.frozenAt k
theorem keep(h:OutC w w1 H n cp os){s:Value}{xs:List Nat}(a:SW w s xs)(b:s.ownBlock≠some H):SW w1 s xs :=
 a.keep fun k hk=>h.bel.block k (a.block hk) (fun e=>b (by rw[hk,e]))
theorem sw(h:OutC w w1 H n cp os)(hw:Wds os):SW w1 (.slice (some ⟨H,0,none⟩) n cp) os:=by
 have:=h.own;have a:=h.len;subst a;exact SW.of_own this hw
end OutC
theorem zH8(b:Nat):((b:Int) == 1)=(b == 1):=by
 by_cases h:b=1
 ·subst h;rfl
 ·rw[beq_eq_false_iff_ne.2 h,beq_eq_false_iff_ne.2 (by omega)]
namespace Qt
theorem take(W w:World)(H n m k cp q:Nat)(os vs:List Nat)(A:OA)(c:Nat)(a:OutC W w H n m os)(G:SW W (.slice A vs.length c) vs)(o:(Value.slice A vs.length c).ownBlock≠some H)(E:Wds os)(F:q<18446744073709551616)(hk:k+vs.length<n)(_:vs.length+1≤cp)(Y:n≤2*LIM) :
    Calls Tryz.prog 183 #[.slice (some ⟨H,k,none⟩) (vs.length+1) cp,.agg #[.slice A vs.length c],.int .u64 (q:Int)] w fun e w'=>∃(b:Nat) (d:List Nat),e=.returned (.bool (b == 1))∧b≤1∧OutC W w' H n m d ∧
      Wds d∧za8 os d k (k+vs.length+1)∧nval d+B64^k*(q*nval vs)=nval os+B64^(k+vs.length+1)*b:=by
  have y:=hid a;have i:=hid G;have I:=hid E;have Z:vs.length≤9223372036854775806:=by have:=zaP;omega
  clear a G E;have r:OutC W (w.alloc (.cells #[.slice A vs.length c] 31)) H n m os:=y.out.alloc _;have s:(w.alloc (.cells #[.slice A vs.length c] 31)).cell? ⟨w.heap.size,0,none⟩=some (.slice A vs.length c):=zax rfl rfl;have X:=y.out.lt;go_enter Tryz.func183,Tryz.ntmps183;go_wp2_with fail
  generalize hw1:w.alloc (.cells #[.slice A vs.length c] 31)=w1 at *
  clear hw1;have P:w.heap.size≠H:=by omega
  generalize w.heap.size=B at *
  refine(Nt.len (.slice A vs.length c) vs _ (r.keep i.out o)).mono ?_;rintro e w' ⟨rfl,rfl⟩;have K:=hid (r.alloc (.cells #[.slice A vs.length c] 31));have L:=hid (cell_al (ob:=.cells #[.slice A vs.length c] 31) s);clear r s;generalize w1.alloc (.cells #[.slice A vs.length c] 31)=w2 at *
  go_wp2_with fail
  go_loopw [7,8,14] (fun S J x wr=>∃(j V f:Nat) (d:List Nat),x=.int .i64 j∧S=.int .u64 V∧J=.int .u64 f∧j≤vs.length∧TakeInv os d vs k q j V f∧OutC W wr H n m d∧wr.cell? ⟨B,0,none⟩=some (.slice A vs.length c))
    (fun _ _ x _=>vs.length-(intOf x).toNat)
  case atStart=>exact⟨0,0,0,os,rfl,rfl,rfl,Nat.zero_le _,TakeInv.start os vs k q I.out,K.out,L.out⟩
  case round =>
    obtain⟨j,V,f,d,rfl,rfl,rfl,hj,p,a,hc⟩:=hrel;have C:V<18446744073709551616:=p.ovr;have z:f≤1:=p.one;have g:=hid p;clear p;by_cases U:j<vs.length
    · have v:=hid (a.keep i.out o);have Q:=zdM i.out.2 j;have u:=zdM g.out.wds (k+j)

      have M:=cell_al (ob:=.cells #[.slice A vs.length c] 31) (a.cell (k:=k+j) (by omega));have N:=zd1 (ob:=.cells #[.slice A vs.length c] 31) a.lt (a.fro (k+j));have D:(0:Int)≤(j:Int):=Int.natCast_nonneg _;have O:(j:Int)<(vs.length:Int)+1:=by omega
      have l:=hid a;clear a
      go_wp2_with (first
        | (go_at_call 156;(with_reducible refine(Nt.word (.slice A vs.length c) vs _ D _ v.out).mono ?_);rintro e w' ⟨rfl,rfl⟩)
        | (go_at_call 155;(refine(Word.mulAdd (wd vs j) q V 0 Q F C (by decide) _).mono ?_);rintro e w' ⟨rfl,rfl⟩)
        | (go_at_call 159;(refine(Word.sub (wd d (k+j)) (zdo (wd vs j) q V 0) f u (zrG _ _ _ _) z _).mono ?_);rintro e w' ⟨rfl,rfl⟩))
      exact⟨⟨j+1,_,_,_,by go_num,rfl,rfl,by omega,g.out.next F i.out.2 (by rw[←g.out.out.1,l.out.len];omega),(l.out.alloc _).store (k+j) _,cell_set P (cell_al hc)⟩,by simp[intOf];omega⟩
    · obtain rfl:j=vs.length:=by omega
      have v:Hid (SW wr.drew (.slice A vs.length c) vs):=hid (a.drew.keep i.out o);have R:Hid (SW (wr.alloc (.cells #[.slice A vs.length c] 31)).drew (.slice A vs.length c) vs):=hid ((a.alloc (.cells #[.slice A vs.length c] 31)).drew.keep i.out o);have u:=zdM g.out.wds (k+vs.length)
      have M:((wr.alloc (.cells #[.slice A vs.length c] 31)).alloc (.cells #[.slice A vs.length c] 31)).drew.cell? ⟨H,k+vs.length,none⟩=some (.int .u64 ((wd d (k+vs.length):Nat):Int)):=cell_al (cell_al (a.cell (k:=k+vs.length) (by omega)));have N:((wr.alloc (.cells #[.slice A vs.length c] 31)).alloc (.cells #[.slice A vs.length c] 31)).drew.frozen? ⟨H,k+vs.length,none⟩=false:=zd1 (zxk a.lt) (zd1 a.lt (a.fro (k+vs.length)));have s:wr.drew.cell? ⟨B,0,none⟩=some (.slice A vs.length c):=hc
      have T:(wr.alloc (.cells #[.slice A vs.length c] 31)).drew.cell? ⟨B,0,none⟩=some (.slice A vs.length c):=cell_al hc;have D:(0:Int)≤(vs.length:Int):=Int.natCast_nonneg _;have O:(vs.length:Int)<(vs.length:Int)+1:=by omega
      have l:=hid a;clear a;go_wp2_with fail
      go_region_with (first
        | (go_at_call 117;(first | with_reducible refine(Nt.len (.slice A vs.length c) vs _ v.out).mono ?_ | with_reducible refine(Nt.len (.slice A vs.length c) vs _ R.out).mono ?_);rintro e w' ⟨rfl,rfl⟩)
        | (go_at_call 159;(refine(Word.sub (wd d (k+vs.length)) V f u C z _).mono ?_);rintro e w' ⟨rfl,rfl⟩))
      all_goals
        (go_wp2
         go_ret
         have t:=g.out.fin (by rw[←g.out.out.1,l.out.len];omega);exact⟨_,_,by rw[←zH8];rfl,zBo _ _ _,(((l.out.alloc _).alloc _).store (k+vs.length) _).drew,t.1,t.2.1,t.2.2⟩)
end Qt
namespace Qt
theorem back(W w:World)(H n m k cp:Nat)(os vs:List Nat)(A:OA)(c:Nat)(a:OutC W w H n m os)(D:SW W (.slice A vs.length c) vs)(o:(Value.slice A vs.length c).ownBlock≠some H)(z:Wds os)(hk:k+vs.length<n)(V:n≤2*LIM) :
    Calls Tryz.prog 184 #[.slice (some ⟨H,k,none⟩) (vs.length+1) cp,.agg #[.slice A vs.length c]] w fun e w'=>∃d:List Nat,e=.returned (.tuple #[])∧OutC W w' H n m d ∧
      Wds d∧za8 os d k (k+vs.length+1)∧∃b,nval d+B64^(k+vs.length+1)*b=nval os+B64^k*nval vs:=by
  have x:=hid a;have l:=hid D;have F:=hid z;have X:vs.length≤9223372036854775806:=by have:=zaP;omega
  clear a D z;have q:OutC W (w.alloc (.cells #[.slice A vs.length c] 31)) H n m os:=x.out.alloc _;have r:(w.alloc (.cells #[.slice A vs.length c] 31)).cell? ⟨w.heap.size,0,none⟩=some (.slice A vs.length c):=zax rfl rfl;have U:=x.out.lt;go_enter Tryz.func184,Tryz.ntmps184;go_wp2_with fail
  generalize hw1:w.alloc (.cells #[.slice A vs.length c] 31)=w1 at *
  clear hw1;have P:w.heap.size≠H:=by omega
  generalize w.heap.size=B at *
  refine(Nt.len (.slice A vs.length c) vs _ (q.keep l.out o)).mono ?_;rintro e w' ⟨rfl,rfl⟩;have K:=hid (q.alloc (.cells #[.slice A vs.length c] 31));have L:=hid (cell_al (ob:=.cells #[.slice A vs.length c] 31) r);clear q r;generalize w1.alloc (.cells #[.slice A vs.length c] 31)=w2 at *
  go_wp2_with fail
  go_loopw [4,8] (fun I u wr=>∃(j f:Nat) (d:List Nat),u=.int .i64 j∧I=.int .u64 f∧j≤vs.length∧BackInv os d vs k j f∧OutC W wr H n m d∧wr.cell? ⟨B,0,none⟩=some (.slice A vs.length c))
    (fun _ u _=>vs.length-(intOf u).toNat)
  case atStart=>exact⟨0,0,os,rfl,rfl,Nat.zero_le _,BackInv.start os vs k F.out,K.out,L.out⟩
  case round =>
    obtain⟨j,f,d,rfl,rfl,hj,p,a,hc⟩:=hrel;have J:f≤1:=p.one;have g:=hid p;clear p;by_cases T:j<vs.length
    · have t:Hid (SW wr.drew (.slice A vs.length c) vs):=hid (a.drew.keep l.out o);have Q:=zdM l.out.2 j;have C:=zdM g.out.wds (k+j);have R:wr.drew.cell? ⟨H,k+j,none⟩=some (.int .u64 ((wd d (k+j):Nat):Int)):=a.cell (k:=k+j) (by omega);have M:(wr.alloc (.cells #[.slice A vs.length c] 31)).drew.cell? ⟨H,k+j,none⟩=some (.int .u64 ((wd d (k+j):Nat):Int)):=cell_al (a.cell (k:=k+j) (by omega));have N:(wr.alloc (.cells #[.slice A vs.length c] 31)).drew.frozen? ⟨H,k+j,none⟩=false:=zd1 a.lt (a.fro (k+j))
      have r:wr.drew.cell? ⟨B,0,none⟩=some (.slice A vs.length c):=hc;have y:(0:Int)≤(j:Int):=Int.natCast_nonneg _;have O:(j:Int)<(vs.length:Int)+1:=by omega
      have S:(j:Int)<(vs.length:Int):=by omega
      have i:=hid a;have E:=hid hc;clear a hc;go_wp2_with fail
      go_region_with (first
        | (go_at_call 156;(with_reducible refine(Nt.word (.slice A vs.length c) vs _ y _ t.out).mono ?_);rintro e w' ⟨rfl,rfl⟩)
        | (go_at_call 158;(refine(Word.add (wd d (k+j)) (wd vs j) f C Q J _).mono ?_);rintro e w' ⟨rfl,rfl⟩))
      all_goals
        (go_wp2
         exact⟨⟨j+1,_,_,by go_num,rfl,by omega,g.out.next l.out.2 (by rw[←g.out.out.1,i.out.len];omega),((i.out.alloc _).store (k+j) _).drew,cell_set P (cell_al E.out)⟩,by simp[intOf];omega⟩)
    · obtain rfl:j=vs.length:=by omega
      have t:Hid (SW wr (.slice A vs.length c) vs):=hid (a.keep l.out o);have C:=zdM g.out.wds (k+vs.length);have M:=cell_al (ob:=.cells #[.slice A vs.length c] 31) (a.cell (k:=k+vs.length) (by omega));have N:=zd1 (ob:=.cells #[.slice A vs.length c] 31) a.lt (a.fro (k+vs.length));have y:(0:Int)≤(vs.length:Int):=Int.natCast_nonneg _;have O:(vs.length:Int)<(vs.length:Int)+1:=by omega
      have i:=hid a;clear a;have hw:IntKind.u64.wrap (((wd d (k+vs.length):Nat):Int)+((f:Nat):Int))=((zjj (wd d (k+vs.length)) f 0:Nat):Int):=by rw[IntKind.wrap_u64];unfold zjj B64;omega
      have G:=hid hw;clear hw;go_wp2_with fail
      refine(Nt.len (.slice A vs.length c) vs _ t.out).mono ?_;rintro e w' ⟨rfl,rfl⟩;go_wp2;rw[G.out];have s:=g.out.fin (by rw[←g.out.out.1,i.out.len];omega);exact bodyPost_end (v:=.tuple #[]) (by simp[results,Tryz.results184,go_sem]) rfl ⟨_,rfl,(i.out.alloc _).store (k+vs.length) _,s.1,s.2.1,s.2.2⟩
