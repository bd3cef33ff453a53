/- Contracts and lemmas: Bases. Conditions: as each says. -/
import Derived.Test.YtmpkpcpllhacpaaGreatDoorEtaZr
import Derived.Laws.Cover1
import Derived.Deep.DeepCutAuto
set_option linter.all false
set_option maxHeartbeats 2000000
set_option maxRecDepth 100000
namespace Go.Proofs.YtmpkpcpllhacpaaGreatDoor
open Go.RowKit Am
open Word (div_ok)
attribute [local go_sem ↓] Go.wp_at_zero Go.wp_at_succ
theorem ydO:∀n,n≤13→∀m,m≤4→m≤n→∀k,k<min m (n-m)→zz9 (zdw (binom (n-min m (n-m)+k) k) (n-min m (n-m)+k+1) 0 0) (zdo (binom (n-min m (n-m)+k) k) (n-min m (n-m)+k+1) 0 0) (k+1)=binom (n-min m (n-m)+(k+1)) (k+1)∧zdw (binom (n-min m (n-m)+k) k) (n-min m (n-m)+k+1) 0 0=0:=by decide +kernel
theorem ydL:∀n,n≤13→∀m,m≤4→m≤n→∀k,k≤min m (n-m)→binom (n-min m (n-m)+k) k≤1000:=by decide +kernel
theorem ydP:∀n,n≤13→∀m,m≤4→m≤n→binom (n-min m (n-m)+min m (n-m)) (min m (n-m))=binom n m:=by decide +kernel
theorem bases(n m:Nat)(l:n≤13)(hm:m≤4)(j:m≤n)(w:World) :
  Calls Tryz.prog 33 #[.int .i64 (n:Int),.int .i64 (m:Int),.int .i64 1073741824] w fun e w'=>e=.returned (.tuple #[.int .i64 (binom n m:Nat),.bool true])∧Below w.heap.size w w':=by
 have q:=Lib.hid (ydO n l m hm j);have d:=Lib.hid (ydL n l m hm j);have o:=Lib.hid (ydP n l m hm j);obtain⟨M,g⟩:∃M,min m (n-m)=M:=⟨_,rfl⟩
 rw[g]at q d o;have x:=Lib.hid g;have F:M≤4:=by omega
 have G:M≤n:=by omega
 have h1:¬(m:Int)<0:=by omega
 have E:¬(n:Int)<(m:Int):=by omega
 clear g;go_enter Tryz.func33,Tryz.ntmps33;go_upto_region 3 with fail
 go_cut[1] (fun a D=>a=.int .i64 (M:Int)∧D=w)
 case first =>
  have K:IntKind.i64.wrap ((n:Int)-(m:Int))=(n:Int)-(m:Int):=by rw[IntKind.wrap_i64];omega
  go_wp2
  all_goals
   go_meet;exact⟨congrArg _ (by have:=x.out;omega),rfl⟩
 case rest =>
  obtain⟨rfl,rfl⟩:=hcut;rename World=>w
  go_wp2
  go_loopw [8,9] (fun B i wr=>∃k:Nat,i=.int .i64 ((k:Int)+1)∧B=.int .i64 ((binom (n-M+k) k:Nat):Int)∧k≤M∧Below w.heap.size w wr)
   (fun _ i _=>M+1-(intOf i).toNat)
  case atStart=>exact⟨0,rfl,by cases n-M<;>rfl,Nat.zero_le _,Below.refl _ _⟩
  case round =>
   obtain⟨k,rfl,rfl,hk,s⟩:=hrel;have c:=Lib.hid s;have z:=d.out k hk;by_cases t:k<M
   ·have b:=q.out k t;have H:=d.out (k+1) t;obtain⟨h0,b⟩:=And.intro b.2 b.1;clear s;generalize hq:binom (n-M+(k+1)) (k+1)=Q at *
    generalize hTT:n-M+k+1=T at *
    have f:=Lib.hid hTT;generalize binom (n-M+k) k=O at *
    have y:=Lib.hid hq;have r:=Lib.hid b;have p:=Lib.hid h0;clear hq b h0 hTT;have L:((n:Int)-(M:Int)+((k:Int)+1))=((T:Nat):Int):=by have:=f.out;omega
    have I:T≤14:=by have:=f.out;omega
    have A:=zrG O T 0 0;go_wp2_with fail
    refine(Word.mul O T (by omega) (by omega) _).mono ?_;rintro e C ⟨rfl,rfl⟩;rw[p.out];rw[p.out]at r;generalize zdo O T 0 0=lo at *
    go_wp2_with fail
    rw[show((k:Int)+1)=((k+1:Nat):Int)by omega];refine(div_ok 0 lo (k+1) (by omega) A (by omega) _).mono ?_;rintro e C ⟨rfl,nd,rfl⟩;rw[r.out];have u:=Lib.hid (c.out.trans ((zap wr nd).mono c.out.size));rw[show((k+1:Nat):Int)=(k:Int)+1 by omega];go_wp2;go_roundw
    case rel=>exact⟨k+1,by go_num,by have e:=y.out;rw[←f.out]at e;rw[show n-M+(k+1)=n-M+k+1 from rfl,e],by omega,u.out⟩
    case measure=>simp[intOf];omega
   ·obtain rfl:M=k:=by omega
    rw[o.out]at z ⊢;have J:decide (((binom n m:Nat):Int)≤1073741824)=true:=decide_eq_true (by omega);go_wp2;refine bodyPost_ret (v:=.tuple #[.int .i64 (binom n m:Nat),.bool true]) (by simp[results,Tryz.results33,go_sem]) rfl ?_;exact⟨rfl,c.out⟩
