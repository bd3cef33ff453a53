/- Contracts and lemmas: Ex18. Conditions: as each says. -/
import Derived.Test.YtmflbanlgkdgeaaGreatDoorPrSZr
set_option linter.all false
set_option maxRecDepth 100000
namespace Go.Proofs.YtmflbanlgkdgeaaGreatDoor
open Go.RowKit Am
def z6o:List Rat:=rats [1,1]
def z6p:List PRow:=[⟨rats [1,2],2,((4:Int):Rat)⟩,⟨rats [3,1],1,((9:Int):Rat)⟩]
def z6q:List Rat:=rats [0]
def z6r:List PRow:=[⟨rats [1],1,((-1:Int):Rat)⟩]
def z6s:List Rat:=rats [-1]
def z6l (o:Out) (f:List Nat→Bool):Bool:=match o with | .best c _=>f c | _=>false
def z6m (o:Out) (f:List Nat→Bool):Bool:=match o with | .none c _=>f c | _=>false
def z6i (o:Out) (f:List Nat→Nat→Bool):Bool:=match o with | .falls c j _=>f c j | _=>false
def z6j (o:Out):Bool:=match o with | .spent _=>true | _=>false
theorem z6L{o:Out}{f:List Nat→Bool}(h:z6l o f=true):∃c n,o=.best c n∧f c=true:=by
 unfold z6l at h;split at h
 ·exact⟨_,_,rfl,h⟩
 ·cases h
theorem z6M{o:Out}{f:List Nat→Bool}(h:z6m o f=true):∃c n,o=.none c n∧f c=true:=by
 unfold z6m at h;split at h
 ·exact⟨_,_,rfl,h⟩
 ·cases h
theorem z6I{o:Out}{f:List Nat→Nat→Bool}(h:z6i o f=true):∃c j n,o=.falls c j n∧f c j=true:=by
 unfold z6i at h;split at h
 ·exact⟨_,_,_,rfl,h⟩
 ·cases h
theorem z6J{o:Out}(h:z6j o=true):∃n,o=.spent n:=by
 unfold z6j at h;split at h
 ·exact⟨_,rfl⟩
 ·cases h
theorem z6U:z6l (zSA 4 2 (zc3 z6p) (zg8 z6p) (zjD z6o z6p) 100) (fun c=>decide ((zh1 6 c (za5 (zt0 (zc3 z6p) (zg8 z6p)) (zwh (zg8 z6p)) c)).take 2=rats [0,2])&&decide (el (bkL ((zg8 z6p).map sgI) (zcl (zt0 (zc3 z6p) (zg8 z6p)) c (zKb 2 (zjD z6o z6p))) 2) 0=Rat.divInt 1 2))=true:=by decide +kernel
theorem z6R:z6j (zSA 4 2 (zc3 z6p) (zg8 z6p) (zjD z6o z6p) 0)=true:=by decide +kernel
theorem z6V:z6m (zSA 2 1 (zc3 z6r) (zg8 z6r) (zjD z6q z6r) 100) (fun c=>decide (bkL ((zg8 z6r).map sgI) (zcl (zt0 (zc3 z6r) (zg8 z6r)) c (zJG 2 1)) 1=rats [-1]))=true:=by decide +kernel
theorem z6S:z6i (zSA 1 0 (zc3 []) (zg8 []) (zjD z6s []) 100) (fun c j=>decide ((zh1 1 c (za5 (zt0 (zc3 []) (zg8 [])) (zwh (zg8 [])) c)).take 1=rats [0])&&decide ((zTj 1 c (zav (zt0 (zc3 []) (zg8 [])) c j) j 0).take 1=rats [1]))=true:=by decide +kernel
