import Derived.Test.YtdbgifdfdhhjcaaGreatV09
import Derived.Test.YtdbgifdfdhhjcaaGreatV06
set_option linter.unusedVariables false
set_option linter.unusedSimpArgs false
set_option linter.unusedSectionVars false
noncomputable section
namespace Go.Ab
open Go Go.RowKit
set_option linter.constructorNameAsVariable false
def Ks {R:Type} (n:Nat) (k:Nat->R):R:=Nat.rec (k 0) (λm _=>k (Nat.succ m)) n
theorem IJ {R:Type} (n:Nat) (k:Nat->R):Ks n k=k n:=by cases n <;> rfl
inductive D8 where | a | b | c | d | e | f | g | h
 deriving DecidableEq
inductive T8 (α:Type) where
 | nil
 | node (o:Option α) (a b c d e f g h:T8 α)
section
variable {α R:Type}
def T8.ch (t:T8 α) (d:D8):T8 α :=
 match t with
 | .nil=>.nil
 | .node _ a b c dd e f g h=>match d with | .a=>a | .b=>b | .c=>c | .d=>dd | .e=>e | .f=>f | .g=>g | .h=>h
def T8.val (t:T8 α):Option α :=
 match t with
 | .nil=>none
 | .node o ..=>o
def T8.get (p:List D8):T8 α->Option α :=
 List.rec (motive:=λ_=>T8 α->Option α) (λt=>T8.rec (motive:=λ_=>Option α) none (λo _ _ _ _ _ _ _ _ _ _ _ _ _ _ _ _=>o) t)
  (λx _ ih t=>T8.rec (motive:=λ_=>Option α) none (λ_ a b c d e f g h _ _ _ _ _ _ _ _=>ih (D8.rec (motive:=λ_=>T8 α) a b c d e f g h x)) t) p
def T8.vP (o:Option α) (p:List D8):T8 α->(T8 α->R)->R :=
 List.rec (motive:=λ_=>T8 α->(T8 α->R)->R)
  (λt k=>T8.rec (motive:=λ_=>R) (k (.node o .nil .nil .nil .nil .nil .nil .nil .nil)) (λ_ a b c d e f g h _ _ _ _ _ _ _ _=>k (.node o a b c d e f g h)) t)
  (λx _ ih t k=>T8.rec (motive:=λ_=>R)
   (D8.rec (motive:=λ_=>R) (ih .nil λy=>k (.node none y .nil .nil .nil .nil .nil .nil .nil)) (ih .nil λy=>k (.node none .nil y .nil .nil .nil .nil .nil .nil)) (ih .nil λy=>k (.node none .nil .nil y .nil .nil .nil .nil .nil))
    (ih .nil λy=>k (.node none .nil .nil .nil y .nil .nil .nil .nil)) (ih .nil λy=>k (.node none .nil .nil .nil .nil y .nil .nil .nil)) (ih .nil λy=>k (.node none .nil .nil .nil .nil .nil y .nil .nil))
    (ih .nil λy=>k (.node none .nil .nil .nil .nil .nil .nil y .nil)) (ih .nil λy=>k (.node none .nil .nil .nil .nil .nil .nil .nil y)) x)
   (λw a b c d e f g h _ _ _ _ _ _ _ _=>D8.rec (motive:=λ_=>R) (ih a λy=>k (.node w y b c d e f g h)) (ih b λy=>k (.node w a y c d e f g h)) (ih c λy=>k (.node w a b y d e f g h))
    (ih d λy=>k (.node w a b c y e f g h)) (ih e λy=>k (.node w a b c d y f g h)) (ih f λy=>k (.node w a b c d e y g h)) (ih g λy=>k (.node w a b c d e f y h)) (ih h λy=>k (.node w a b c d e f g y)) x) t) p
end
def d8 (n:Nat):D8 :=
 match n with
 | 0=>.a | 1=>.b | 2=>.c | 3=>.d | 4=>.e | 5=>.f | 6=>.g | _=>.h
def z8l:Nat->Nat->List D8
 | 0,_=>[]
 | f+1,n=>match n with
  | 0=>[]
  | m+1=>d8 ((m+1)%8) :: z8l f ((m+1)/8)
def path (n:Nat):List D8:=z8l n n
abbrev XE:=T8 V
def XE.get (E:XE) (t:Nat):V:=Option.rec (motive:=λ_=>V) .xF (λv=>v) (T8.get (path t) E)
def XE.put {R:Type} (N:Nat) (d:Option Tmp) (v:V) (E:XE) (k:XE->R):R :=
 Option.rec (motive:=λ_=>R) (k E) (λt=>Bool.rec (motive:=λ_=>R) (k E) (T8.vP (some v) (path t) E k) (Nat.blt t N)) d
structure HT where
 lo:Nat
 next:Nat
 tr:T8 AO
def HT.get (H:HT) (n:Nat):Option AO:=T8.get (path n) H.tr
def HT.ah (H:HT):AH:=⟨H.next,λn=>T8.get (path n) H.tr⟩
def HT.put {R:Type} (H:HT) (n:Nat) (o:AO) (k:HT->R):R :=
 HT.rec (λlo next tr=>Ks (bif Nat.ble lo n then lo else n) λlo=>T8.vP (some o) (path n) tr λtr=>k ⟨lo,next,tr⟩) H
def HT.kill {R:Type} (H:HT) (n:Nat) (k:HT->R):R :=
 HT.rec (λlo next tr=>Ks (bif Nat.ble lo n then lo else n) λlo=>T8.vP none (path n) tr λtr=>k ⟨lo,next,tr⟩) H
def HT.make {R:Type} (H:HT) (o:AO) (k:Nat->HT->R):R :=
 HT.rec (λlo next tr=>Ks (next+1) λnext'=>T8.vP (some o) (path next) tr λtr=>k next ⟨lo,next',tr⟩) H
def HT.Own (H:HT):Prop:=∀ n o,H.get n=some o->o.w8=true
structure HT.ext (H H':HT):Prop where
 lo:H'.lo<=H.lo
 next:H.next<=H'.next
 same:∀ n,n<H'.lo->n<H.next->H'.get n=H.get n
 own:H.Own->H'.Own
theorem HT.ext.refl (H:HT):HT.ext H H:=⟨Nat.le_refl _,Nat.le_refl _,λ_ _ _=>rfl,id⟩
theorem HT.ext.trans {H H' H'':HT} (a:HT.ext H H') (b:HT.ext H' H''):HT.ext H H'' :=
 ⟨Nat.le_trans b.lo a.lo,Nat.le_trans a.next b.next,λn h1 h2=>by
  have l:=b.lo;have x:=a.next;rw [b.same n h1 O_,a.same n O_ h2],λh=>b.own (a.own h)⟩
section
variable {R:Type} (P:Program)
variable {P}
variable (P)
end
abbrev AS:=(R:Type)->FuncId->List V->HT->(yO->HT->Option R)->Option R
section
variable (P:Program) (N:Nat)
variable {P}
variable (P)
variable {P}
variable (P)
variable {P}
variable (P)
variable {P N}
end
end Go.Ab
end
