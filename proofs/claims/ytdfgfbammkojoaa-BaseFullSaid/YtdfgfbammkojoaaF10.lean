import Derived.Test.YtdfgfbammkojoaaF09
import Derived.Test.YtdfgfbammkojoaaF06
set_option linter.unusedVariables false
set_option linter.unusedSimpArgs false
namespace Go.Ab
open Go Go.RowKit
set_option linter.constructorNameAsVariable false
noncomputable def fNat {R:Type} (n:Nat) (k:Nat→R):R:=Nat.rec (k 0) (fun m _=>k (Nat.succ m)) n
theorem fNat_eq {R:Type} (n:Nat) (k:Nat→R):fNat n k=k n:=by cases n <;> rfl
inductive D8 where | a | b | c | d | e | f | g | h
 deriving DecidableEq
inductive T8 (α:Type) where
 | nil
 | node (o:Option α) (a b c d e f g h:T8 α)
section
variable {α R:Type}
def T8.val (t:T8 α):Option α :=
 match t with
 | .nil=>none
 | .node o ..=>o
noncomputable def T8.get (p:List D8):T8 α→Option α :=
 List.rec (motive:=fun _=>T8 α→Option α) (fun t=>T8.rec (motive:=fun _=>Option α) none (fun o _ _ _ _ _ _ _ _ _ _ _ _ _ _ _ _=>o) t)
   (fun x _ ih t=>T8.rec (motive:=fun _=>Option α) none (fun _ a b c d e f g h _ _ _ _ _ _ _ _=>ih (D8.rec (motive:=fun _=>T8 α) a b c d e f g h x)) t) p
noncomputable def T8.upd (o:Option α) (p:List D8):T8 α→(T8 α→R)→R :=
 List.rec (motive:=fun _=>T8 α→(T8 α→R)→R)
   (fun t k=>T8.rec (motive:=fun _=>R) (k (.node o .nil .nil .nil .nil .nil .nil .nil .nil)) (fun _ a b c d e f g h _ _ _ _ _ _ _ _=>k (.node o a b c d e f g h)) t)
   (fun x _ ih t k=>T8.rec (motive:=fun _=>R)
     (D8.rec (motive:=fun _=>R) (ih .nil fun y=>k (.node none y .nil .nil .nil .nil .nil .nil .nil)) (ih .nil fun y=>k (.node none .nil y .nil .nil .nil .nil .nil .nil)) (ih .nil fun y=>k (.node none .nil .nil y .nil .nil .nil .nil .nil))
       (ih .nil fun y=>k (.node none .nil .nil .nil y .nil .nil .nil .nil)) (ih .nil fun y=>k (.node none .nil .nil .nil .nil y .nil .nil .nil)) (ih .nil fun y=>k (.node none .nil .nil .nil .nil .nil y .nil .nil))
       (ih .nil fun y=>k (.node none .nil .nil .nil .nil .nil .nil y .nil)) (ih .nil fun y=>k (.node none .nil .nil .nil .nil .nil .nil .nil y)) x)
     (fun w a b c d e f g h _ _ _ _ _ _ _ _=>D8.rec (motive:=fun _=>R) (ih a fun y=>k (.node w y b c d e f g h)) (ih b fun y=>k (.node w a y c d e f g h)) (ih c fun y=>k (.node w a b y d e f g h))
       (ih d fun y=>k (.node w a b c y e f g h)) (ih e fun y=>k (.node w a b c d y f g h)) (ih f fun y=>k (.node w a b c d e y g h)) (ih g fun y=>k (.node w a b c d e f y h)) (ih h fun y=>k (.node w a b c d e f g y)) x) t) p
end
def d8 (n:Nat):D8 :=
 match n with
 | 0=>.a | 1=>.b | 2=>.c | 3=>.d | 4=>.e | 5=>.f | 6=>.g | _=>.h
def digF:Nat→Nat→List D8
 | 0,_=>[]
 | f + 1,n=>match n with
   | 0=>[]
   | m + 1=>d8 ((m + 1) % 8) :: digF f ((m + 1) / 8)
def path (n:Nat):List D8:=digF n n
abbrev XE:=T8 V
noncomputable def XE.get (E:XE) (t:Nat):V:=Option.rec (motive:=fun _=>V) .und (fun v=>v) (T8.get (path t) E)
noncomputable def XE.put {R:Type} (N:Nat) (d:Option Tmp) (v:V) (E:XE) (k:XE→R):R :=
 Option.rec (motive:=fun _=>R) (k E) (fun t=>Bool.rec (motive:=fun _=>R) (k E) (T8.upd (some v) (path t) E k) (Nat.blt t N)) d
structure HT where
 lo:Nat
 next:Nat
 tr:T8 AO
noncomputable def HT.get (H:HT) (n:Nat):Option AO:=T8.get (path n) H.tr
noncomputable def HT.ah (H:HT):AH:=⟨H.next,fun n=>T8.get (path n) H.tr⟩
noncomputable def HT.put {R:Type} (H:HT) (n:Nat) (o:AO) (k:HT→R):R :=
 HT.rec (fun lo next tr=>fNat (bif Nat.ble lo n then lo else n) fun lo=>T8.upd (some o) (path n) tr fun tr=>k ⟨lo,next,tr⟩) H
noncomputable def HT.kill {R:Type} (H:HT) (n:Nat) (k:HT→R):R :=
 HT.rec (fun lo next tr=>fNat (bif Nat.ble lo n then lo else n) fun lo=>T8.upd none (path n) tr fun tr=>k ⟨lo,next,tr⟩) H
noncomputable def HT.make {R:Type} (H:HT) (o:AO) (k:Nat→HT→R):R :=
 HT.rec (fun lo next tr=>fNat (next + 1) fun next'=>T8.upd (some o) (path next) tr fun tr=>k next ⟨lo,next',tr⟩) H
def HT.Own (H:HT):Prop:=∀ n o,H.get n=some o→o.isOwn=true
structure HT.ext (H H':HT):Prop where
 lo:H'.lo≤H.lo
 next:H.next≤H'.next
 same:∀ n,n < H'.lo→n < H.next→H'.get n=H.get n
 own:H.Own→H'.Own
theorem HT.ext.refl (H:HT):HT.ext H H:=⟨Nat.le_refl _,Nat.le_refl _,fun _ _ _=>rfl,id⟩
theorem HT.ext.trans {H H' H'':HT} (a:HT.ext H H') (b:HT.ext H' H''):HT.ext H H'' :=
 ⟨Nat.le_trans b.lo a.lo,Nat.le_trans a.next b.next,fun n h1 h2=>by
   have l:=b.lo;have x:=a.next
   rw [b.same n h1 (by omega),a.same n (by omega) h2],fun h=>b.own (a.own h)⟩
end Go.Ab
namespace Go.Ab
open Go Go.RowKit
section
variable {R:Type} (P:Program)
variable {P}
variable (P)
end
end Go.Ab
namespace Go.Ab
open Go Go.RowKit
abbrev CallF:=(R:Type)→FuncId→List V→HT→(AEnd→HT→Option R)→Option R
section
variable (P:Program) (N:Nat)
variable {P}
variable (P)
variable {P}
variable (P)
variable {P}
variable (P)
variable {P N}
end
end Go.Ab
