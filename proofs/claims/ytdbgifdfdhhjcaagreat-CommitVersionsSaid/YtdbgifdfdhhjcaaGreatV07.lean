import Derived.Test.YtdbgifdfdhhjcaaGreatV05
set_option linter.unusedVariables false
set_option linter.unusedSimpArgs false
set_option linter.unusedSectionVars false
noncomputable section
namespace Go.Ab
section
open Go Go.RowKit
variable {P:Program}
section
variable {t:TypeId} {k k':IntKind} {a b:Int} {c:Bool}
theorem AF (hb:¬ b<0):zi P .shr t (.int k a) (.int k' b) c=some (.int k (ZM k a b)):=by simp [zi,hb]
theorem Kq (hb:¬ b<0):zi P .shl t (.int k a) (.int k' b) c=some (.int k (Vk k a b)):=by simp [zi,hb]
theorem z2n:zi P .or t (.int k a) (.int k b) c=some (.int k (mz .or k a b)):=by simp [zi,tF]
theorem z0m:zi P .and t (.int k a) (.int k b) c=some (.int k (mz .and k a b)):=by simp [zi,tF]
theorem Ah:zi P .xor t (.int k a) (.int k b) c=some (.int k (mz .xor k a b)):=by simp [zi,tF]
end
theorem bZ (x:Int):IntKind.u32.wrap x=x%4294967296:=rfl
theorem aM (x:Int):IntKind.u64.wrap x=x%18446744073709551616:=rfl
theorem zW {x:Int} (h1:-9223372036854775808<=x) (h2:x<9223372036854775808):IntKind.i64.wrap x=x:=by
 have e:∀ x:Int,IntKind.i64.wrap x=(if (true&&decide (x%18446744073709551616>=9223372036854775808))=true then x%18446744073709551616-18446744073709551616 else x%18446744073709551616):=λ_=>rfl;rw [e,Bool.true_and];by_cases h:x%18446744073709551616>=9223372036854775808
 ·rw [if_pos (by rw [decide_eq_true_eq];exact h)];omega
 ·rw [if_neg (by rw [decide_eq_true_eq];exact h)];omega
theorem z0h (v b:Nat) (h:b<=64):ZM .u64 (v:Int) (b:Int)=((v/2 ^ b:Nat):Int):=by
 unfold ZM;rw [Int.toNat_natCast,Nat.min_eq_left (show b<=IntKind.u64.bits from h)];simp
theorem Me (v b:Nat) (h:b<=64) (h2:v*2 ^ b<18446744073709551616):Vk .u64 (v:Int) (b:Int)=((v*2 ^ b:Nat):Int):=by
 unfold Vk;rw [Int.toNat_natCast,Nat.min_eq_left (show b<=IntKind.u64.bits from h),aM];have:((v:Int)*2 ^ b)=((v*2 ^ b:Nat):Int):=S_;rw [this];exact Int.emod_eq_of_lt O_ O_
theorem L6 (v:Nat) (h:v<18446744073709551616):(BitVec.ofInt 64 (v:Int)).toNat=v:=by
 rw [BitVec.toNat_ofInt];have:((v:Int)%((2 ^ 64:Nat):Int)).toNat=v%2 ^ 64:=O_;rw [this];exact Nat.mod_eq_of_lt (by simpa using h)
theorem or_n (a b:Nat) (ha:a<18446744073709551616) (hb:b<18446744073709551616):mz .or .u64 (a:Int) (b:Int)=((a ||| b:Nat):Int):=by
 simp only [mz];have hbits:IntKind.u64.bits=64:=rfl;have:((BitVec.ofInt IntKind.u64.bits (a:Int) ||| BitVec.ofInt IntKind.u64.bits (b:Int)).toNat)=a ||| b:=by
  show (BitVec.ofInt 64 (a:Int) ||| BitVec.ofInt 64 (b:Int)).toNat=a ||| b;rw [BitVec.toNat_or,L6 a ha,L6 b hb]
 rw [this,aM];have h3:(a ||| b)<2 ^ 64:=Nat.or_lt_two_pow (by simpa using ha) (by simpa using hb);exact Int.emod_eq_of_lt O_ (by
  have h4:(a ||| b)<18446744073709551616:=by simpa using h3
  omega)
theorem WS (i a b:Nat) (hb:b<2 ^ i) (h:a*2 ^ i+b<18446744073709551616):mz .or .u64 ((a*2 ^ i:Nat):Int) (b:Int)=((a*2 ^ i+b:Nat):Int):=by
 rw [or_n _ _ O_ O_,Nat.mul_comm a,Nat.two_pow_add_eq_or_of_lt hb a]
def z3C (P:Program) (t:TypeId):Bool:=match ul P t with | some .string=>true | _=>false
theorem js {t:TypeId} {s:List UInt8} {k:IntKind} {i:Nat} (ht:z3C P t=true) (hi:i<s.length):vN P t (.str s) (.int k (i:Int))=some (.int .u8 ((s.getD i 0).toNat:Int)):=by
 unfold z3C at ht;split at ht
 ·rename_i hu;simp only [vN,hu,Int.natCast_nonneg,if_true,Int.toNat_natCast,List.getElem?_eq_getElem hi,List.getD_eq_getElem?_getD,Option.getD_some]
 ·cases ht
section
variable {t:TypeId} {k:IntKind} {a b:Int} {c:Bool}
theorem cE (h:a<b):zi P .lss t (.int k a) (.int k b) c=some (.bool true):=by rw [vq,decide_eq_true h]
theorem cq (h:¬ a<b):zi P .lss t (.int k a) (.int k b) c=some (.bool false):=by rw [vq,decide_eq_false h]
theorem Iu (h:a<=b):zi P .leq t (.int k a) (.int k b) c=some (.bool true):=by rw [eH,decide_eq_true h]
theorem E0 (h:¬ a<=b):zi P .leq t (.int k a) (.int k b) c=some (.bool false):=by rw [eH,decide_eq_false h]
theorem Qe (h:a>b):zi P .gtr t (.int k a) (.int k b) c=some (.bool true):=by rw [qI,decide_eq_true h]
theorem Qr (h:¬ a>b):zi P .gtr t (.int k a) (.int k b) c=some (.bool false):=by rw [qI,decide_eq_false h]
theorem QO (h:a>=b):zi P .geq t (.int k a) (.int k b) c=some (.bool true):=by rw [rB,decide_eq_true h]
theorem GT (h:¬ a>=b):zi P .geq t (.int k a) (.int k b) c=some (.bool false):=by rw [rB,decide_eq_false h]
theorem Qc (h:a=b):zi P .eql t (.int k a) (.int k b) c=some (.bool true):=by rw [qe,h,beq_self_eq_true]
theorem Pz (h:¬ a=b):zi P .eql t (.int k a) (.int k b) c=some (.bool false):=by rw [qe,beq_eq_false_iff_ne.2 h]
theorem Ps (h:¬ a=b):zi P .neq t (.int k a) (.int k b) c=some (.bool true):=by rw [nl,bne,beq_eq_false_iff_ne.2 h];rfl
theorem RF (h:a=b):zi P .neq t (.int k a) (.int k b) c=some (.bool false):=by rw [nl,h,bne_self_eq_false]
end
theorem z07 {t:TypeId} {a:Nat} {c:Bool} (h:a+1<9223372036854775808):zi P .add t (.int .i64 (a:Int)) (.int .i64 1) c=some (.int .i64 ((a+1:Nat):Int)):=by
 rw [d6,zW O_ O_];rfl
def KI (P:Program) (t e:TypeId):Bool :=
 (match ul P t with | some (.slice e')=>e' == e | _=>false)&&ji P t&&(ul P e).isSome&&P.bytesOf e == 1&&(xk P e).isSome
theorem Y9 {t e:TypeId} (h:KI P t e=true):ul P t=some (.slice e)/\(ji P t&&(ul P e).isSome)=true/\P.bytesOf e=1/\(xk P e).isSome=true:=by
 unfold KI at h;simp only [Bool.and_eq_true,beq_iff_eq] at h ⊢;obtain ⟨⟨⟨⟨h1,h2⟩,h3⟩,h4⟩,h5⟩:=h;refine ⟨?_,⟨h2,h3⟩,h4,h5⟩;split at h1
 ·rename_i e' hu;simp only [beq_iff_eq] at h1;subst h1;exact hu
 ·cases h1
theorem wV {h:AH} {e:TypeId} {n:Nat} {own:Bool} {l:List V} (hm:h.m n=some (.cells own (.row e) (.agg l))):xY P h e (.y8 (some (⟨n,.row e,[]⟩,0)) l.length)=some l:=by
 simp [xY,hm,rowAt,yF]
theorem Fx {h:AH} {t e:TypeId} {m:Nat} {own:Bool} {w:V} (ht:KI P t e=true) (hm:h.m m=some (.cells own (.row e) (.agg [w]))) :
 zr P h .append [t,t] [.y8 none 0,.y8 (some (⟨m,.row e,[]⟩,0)) 1]=some (.y8 (some (⟨h.next,.row e,[]⟩,0)) 1,h.make (.cells true (.row e) (.agg [w]))):=by
 obtain ⟨h1,h2,h3,h4⟩:=Y9 ht;have he:=wV (P:=P) hm;simp only [List.length_singleton] at he;simp [zr,h1,h2,oa,he,kC,h3,h4]
theorem Im {h:AH} {t e:TypeId} {n m:Nat} {own:Bool} {l:List V} {w:V} (ht:KI P t e=true) (hn:h.m n=some (.cells true (.row e) (.agg l))) (hm:h.m m=some (.cells own (.row e) (.agg [w]))) (hl:l.length+1<=140737488355328) :
 zr P h .append [t,t] [.y8 (some (⟨n,.row e,[]⟩,0)) l.length,.y8 (some (⟨m,.row e,[]⟩,0)) 1]=some (.y8 (some (⟨h.next,.row e,[]⟩,0)) (l.length+1),(h.kill n).make (.cells true (.row e) (.agg (l++[w])))):=by
 obtain ⟨h1,h2,h3,h4⟩:=Y9 ht;have he:=wV (P:=P) hm;simp only [List.length_singleton] at he;simp [zr,h1,h2,oa,he,kC,hn,h3,h4,hl,AH.kill]
def Dj (e:TypeId) (h:AH) (x:V) (l:List Int):Prop :=
 (x=.y8 none 0/\l=[])\/∃ n,n<h.next/\x=.y8 (some (⟨n,.row e,[]⟩,0)) l.length/\h.m n=some (.cells true (.row e) (.agg (l.map (V.int .u8))))
theorem Dj.grow {e:TypeId} {h:AH} {x:V} {l:List Int} (b:Dj e h x l) (o:AO):Dj e (h.make o) x l:=by
 rcases b with ⟨h1,h2⟩ | ⟨n,h1,h2,h3⟩
 ·exact .inl ⟨h1,h2⟩
 ·refine .inr ⟨n,by rw [fy];omega,h2,?_⟩;rw [qG,if_neg O_];exact h3
theorem Dj.push {t e:TypeId} {h:AH} {x:V} {l:List Int} (b:Dj e h x l) (ht:KI P t e=true) (w:Int) (hl:l.length+1<=140737488355328) :
 ∃ v h',zr P (h.make (.cells true (.row e) (.agg [.int .u8 w]))) .append [t,t] [x,.y8 (some (⟨h.next,.row e,[]⟩,0)) 1]=some (v,h')/\Dj e h' v (l++[w]):=by
 have hm:(h.make (.cells true (.row e) (.agg [.int .u8 w]))).m h.next=some (.cells true (.row e) (.agg [.int .u8 w])):=by rw [qG,if_pos rfl]
 rcases b with ⟨h1,h2⟩ | ⟨n,h1,h2,h3⟩
 ·subst h1;subst h2;refine ⟨_,_,Fx ht hm,.inr ⟨_,?_,rfl,?_⟩⟩
  ·simp only [fy];omega
  ·rw [qG,if_pos rfl];rfl
 ·subst h2;have hn:(h.make (.cells true (.row e) (.agg [.int .u8 w]))).m n=some (.cells true (.row e) (.agg (l.map (V.int .u8)))):=by rw [qG,if_neg O_];exact h3
  have:=Im (P:=P) ht hn hm (by simpa using hl);simp only [List.length_map] at this;refine ⟨_,_,this,.inr ⟨_,?_,by rw [List.length_append];rfl,?_⟩⟩
  ·simp only [fy,AH.kill];omega
  ·have e:(h.make (.cells true (.row e) (.agg [.int .u8 w]))).next=((h.make (.cells true (.row e) (.agg [.int .u8 w]))).kill n).next:=rfl;rw [qG,if_pos e];simp
theorem mF:∀ l:List Int,tM (l.map (V.int .u8))=some (l.map λn=>UInt8.ofNat n.toNat)
 | []=>rfl
 | x :: l=>by simp [tM,mF l]
def bsT (P:Program) (t d e:TypeId):Bool :=
 (match ul P t with | some (.slice e')=>e' == e | _=>false)&&(match ul P d with | some .string=>true | _=>false)&&(match ul P e with | some (.int .u8)=>true | _=>false)
theorem Dj.str {t d e:TypeId} {h:AH} {x:V} {l:List Int} (b:Dj e h x l) (ht:bsT P t d e=true):y9 P h t d x=some (.str (l.map λn=>UInt8.ofNat n.toNat)):=by
 unfold bsT at ht;simp only [Bool.and_eq_true] at ht;obtain ⟨⟨h1,h2⟩,h3⟩:=ht;have hu:ul P t=some (.slice e):=by
  split at h1
  ·rename_i e' hu;simp only [beq_iff_eq] at h1;subst h1;exact hu
  ·cases h1
 have hd:ul P d=some .string:=by
  split at h2
  ·assumption
  ·cases h2
 have he:ul P e=some (.int .u8):=by
  split at h3
  ·assumption
  ·cases h3
 rcases b with ⟨h1,h2⟩ | ⟨n,h1,h2,h3⟩
 ·subst h1;subst h2;simp [y9,ph,hu,hd,he,xY,tM]
 ·subst h2;have:=wV (P:=P) h3;simp only [List.length_map] at this;simp [y9,ph,hu,hd,he,this,mF]
end
end Go.Ab
namespace Go.Gr
def z76:List Nat->Nat
 | []=>0
 | c :: cs=>c%128+128*z76 cs
def pref (c:Nat->Nat) (n:Nat):Nat:=z76 ((List.range n).map c)
def res (c:Nat->Nat) (room at_:Nat):Nat->Nat->Int × Int × Bool
 | _,0=>(0,0,false)
 | k,m+1=>if k<room then (if c k<128 then (if k=9/\1<c k\/c k=0/\0<k then (0,0,false) else (((pref c (k+1):Nat):Int),((at_+k+1:Nat):Int),true)) else res c room at_ (k+1) m) else (0,0,false)
end Go.Gr
end
