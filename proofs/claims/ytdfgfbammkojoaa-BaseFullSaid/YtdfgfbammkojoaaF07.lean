import Derived.Test.YtdfgfbammkojoaaF05
set_option linter.unusedVariables false
set_option linter.unusedSimpArgs false
namespace Go.Ab
open Go Go.RowKit
variable {P:Program}
section
variable {t:TypeId} {k k':IntKind} {a b:Int} {c:Bool}
theorem b_shr (hb:¬ b < 0):aBin P .shr t (.int k a) (.int k' b) c=some (.int k (shrI k a b)):=by simp [aBin,hb]
theorem b_shl (hb:¬ b < 0):aBin P .shl t (.int k a) (.int k' b) c=some (.int k (shlI k a b)):=by simp [aBin,hb]
theorem b_or:aBin P .or t (.int k a) (.int k b) c=some (.int k (bitI .or k a b)):=by simp [aBin,intBin]
theorem b_and:aBin P .and t (.int k a) (.int k b) c=some (.int k (bitI .and k a b)):=by simp [aBin,intBin]
theorem b_xor:aBin P .xor t (.int k a) (.int k b) c=some (.int k (bitI .xor k a b)):=by simp [aBin,intBin]
end
theorem wrap_u32 (x:Int):IntKind.u32.wrap x=x % 4294967296:=rfl
theorem wrap_u64 (x:Int):IntKind.u64.wrap x=x % 18446744073709551616:=rfl
theorem wrap_i64 {x:Int} (h1:-9223372036854775808≤x) (h2:x < 9223372036854775808):IntKind.i64.wrap x=x:=by
 have e:∀ x:Int,IntKind.i64.wrap x=(if (true && decide (x % 18446744073709551616 ≥ 9223372036854775808))=true then x % 18446744073709551616 - 18446744073709551616 else x % 18446744073709551616):=fun _=>rfl
 rw [e,Bool.true_and]
 by_cases h:x % 18446744073709551616 ≥ 9223372036854775808
 · rw [if_pos (by rw [decide_eq_true_eq];exact h)];omega
 · rw [if_neg (by rw [decide_eq_true_eq];exact h)];omega
theorem shr_n (v b:Nat) (h:b≤64):shrI .u64 (v:Int) (b:Int)=((v / 2 ^ b:Nat):Int):=by
 unfold shrI
 rw [Int.toNat_natCast,Nat.min_eq_left (show b≤IntKind.u64.bits from h)]
 simp
theorem shl_n (v b:Nat) (h:b≤64) (h2:v * 2 ^ b < 18446744073709551616):shlI .u64 (v:Int) (b:Int)=((v * 2 ^ b:Nat):Int):=by
 unfold shlI
 rw [Int.toNat_natCast,Nat.min_eq_left (show b≤IntKind.u64.bits from h),wrap_u64]
 have:((v:Int) * 2 ^ b)=((v * 2 ^ b:Nat):Int):=by simp
 rw [this]
 exact Int.emod_eq_of_lt (by omega) (by omega)
theorem bv_nat (v:Nat) (h:v < 18446744073709551616):(BitVec.ofInt 64 (v:Int)).toNat=v:=by
 rw [BitVec.toNat_ofInt]
 have:((v:Int) % ((2 ^ 64:Nat):Int)).toNat=v % 2 ^ 64:=by omega
 rw [this];exact Nat.mod_eq_of_lt (by simpa using h)
theorem or_n (a b:Nat) (ha:a < 18446744073709551616) (hb:b < 18446744073709551616):bitI .or .u64 (a:Int) (b:Int)=((a ||| b:Nat):Int):=by
 simp only [bitI]
 have hbits:IntKind.u64.bits=64:=rfl
 have:((BitVec.ofInt IntKind.u64.bits (a:Int) ||| BitVec.ofInt IntKind.u64.bits (b:Int)).toNat)=a ||| b:=by
   show (BitVec.ofInt 64 (a:Int) ||| BitVec.ofInt 64 (b:Int)).toNat=a ||| b
   rw [BitVec.toNat_or,bv_nat a ha,bv_nat b hb]
 rw [this,wrap_u64]
 have h3:(a ||| b) < 2 ^ 64:=Nat.or_lt_two_pow (by simpa using ha) (by simpa using hb)
 exact Int.emod_eq_of_lt (by omega) (by
   have h4:(a ||| b) < 18446744073709551616:=by simpa using h3
   omega)
theorem or_join (i a b:Nat) (hb:b < 2 ^ i) (h:a * 2 ^ i + b < 18446744073709551616):bitI .or .u64 ((a * 2 ^ i:Nat):Int) (b:Int)=((a * 2 ^ i + b:Nat):Int):=by
 rw [or_n _ _ (by omega) (by omega),Nat.mul_comm a,Nat.two_pow_add_eq_or_of_lt hb a]
def strT (P:Program) (t:TypeId):Bool:=match ul P t with | some .string=>true | _=>false
theorem ix_str {t:TypeId} {s:List UInt8} {k:IntKind} {i:Nat} (ht:strT P t=true) (hi:i < s.length):aIndex P t (.str s) (.int k (i:Int))=some (.int .u8 ((s.getD i 0).toNat:Int)):=by
 unfold strT at ht
 split at ht
 · rename_i hu
   simp only [aIndex,hu,Int.natCast_nonneg,if_true,Int.toNat_natCast,List.getElem?_eq_getElem hi,List.getD_eq_getElem?_getD,Option.getD_some]
 · cases ht
section
variable {t:TypeId} {k:IntKind} {a b:Int} {c:Bool}
theorem b_lss_t (h:a < b):aBin P .lss t (.int k a) (.int k b) c=some (.bool true):=by rw [b_lss,decide_eq_true h]
theorem b_lss_f (h:¬ a < b):aBin P .lss t (.int k a) (.int k b) c=some (.bool false):=by rw [b_lss,decide_eq_false h]
theorem b_leq_t (h:a≤b):aBin P .leq t (.int k a) (.int k b) c=some (.bool true):=by rw [b_leq,decide_eq_true h]
theorem b_leq_f (h:¬ a≤b):aBin P .leq t (.int k a) (.int k b) c=some (.bool false):=by rw [b_leq,decide_eq_false h]
theorem b_gtr_t (h:a > b):aBin P .gtr t (.int k a) (.int k b) c=some (.bool true):=by rw [b_gtr,decide_eq_true h]
theorem b_gtr_f (h:¬ a > b):aBin P .gtr t (.int k a) (.int k b) c=some (.bool false):=by rw [b_gtr,decide_eq_false h]
theorem b_geq_t (h:a ≥ b):aBin P .geq t (.int k a) (.int k b) c=some (.bool true):=by rw [b_geq,decide_eq_true h]
theorem b_geq_f (h:¬ a ≥ b):aBin P .geq t (.int k a) (.int k b) c=some (.bool false):=by rw [b_geq,decide_eq_false h]
theorem b_eql_t (h:a=b):aBin P .eql t (.int k a) (.int k b) c=some (.bool true):=by rw [b_eql,h,beq_self_eq_true]
theorem b_eql_f (h:¬ a=b):aBin P .eql t (.int k a) (.int k b) c=some (.bool false):=by rw [b_eql,beq_eq_false_iff_ne.2 h]
theorem b_neq_t (h:¬ a=b):aBin P .neq t (.int k a) (.int k b) c=some (.bool true):=by rw [b_neq,bne,beq_eq_false_iff_ne.2 h];rfl
theorem b_neq_f (h:a=b):aBin P .neq t (.int k a) (.int k b) c=some (.bool false):=by rw [b_neq,h,bne_self_eq_false]
end
theorem c_inc {t:TypeId} {a:Nat} {c:Bool} (h:a + 1 < 9223372036854775808):aBin P .add t (.int .i64 (a:Int)) (.int .i64 1) c=some (.int .i64 ((a + 1:Nat):Int)):=by
 rw [b_add,wrap_i64 (by omega) (by omega)];rfl
def rowT (P:Program) (t e:TypeId):Bool :=
 (match ul P t with | some (.slice e')=>e' == e | _=>false) && notInt P t && (ul P e).isSome && P.bytesOf e == 1 && (zeroV P e).isSome
theorem rowT_spec {t e:TypeId} (h:rowT P t e=true):ul P t=some (.slice e)∧(notInt P t && (ul P e).isSome)=true∧P.bytesOf e=1∧(zeroV P e).isSome=true:=by
 unfold rowT at h
 simp only [Bool.and_eq_true,beq_iff_eq] at h ⊢
 obtain ⟨⟨⟨⟨h1,h2⟩,h3⟩,h4⟩,h5⟩:=h
 refine ⟨?_,⟨h2,h3⟩,h4,h5⟩
 split at h1
 · rename_i e' hu;simp only [beq_iff_eq] at h1;subst h1;exact hu
 · cases h1
theorem elems_row {h:AH} {e:TypeId} {n:Nat} {own:Bool} {l:List V} (hm:h.m n=some (.cells own (.row e) (.agg l))):aElems P h e (.slc (some (⟨n,.row e,[]⟩,0)) l.length)=some l:=by
 simp [aElems,hm,rowAt,getV]
theorem app_new {h:AH} {t e:TypeId} {m:Nat} {own:Bool} {w:V} (ht:rowT P t e=true) (hm:h.m m=some (.cells own (.row e) (.agg [w]))) :
   aBuiltin P h .append [t,t] [.slc none 0,.slc (some (⟨m,.row e,[]⟩,0)) 1]=some (.slc (some (⟨h.next,.row e,[]⟩,0)) 1,h.make (.cells true (.row e) (.agg [w]))):=by
 obtain ⟨h1,h2,h3,h4⟩:=rowT_spec ht
 have he:=elems_row (P:=P) hm
 simp only [List.length_singleton] at he
 simp [aBuiltin,h1,h2,aAppend,he,aOwnRow,h3,h4]
theorem app_row {h:AH} {t e:TypeId} {n m:Nat} {own:Bool} {l:List V} {w:V} (ht:rowT P t e=true) (hn:h.m n=some (.cells true (.row e) (.agg l))) (hm:h.m m=some (.cells own (.row e) (.agg [w]))) (hl:l.length + 1≤140737488355328) :
   aBuiltin P h .append [t,t] [.slc (some (⟨n,.row e,[]⟩,0)) l.length,.slc (some (⟨m,.row e,[]⟩,0)) 1]=some (.slc (some (⟨h.next,.row e,[]⟩,0)) (l.length + 1),(h.kill n).make (.cells true (.row e) (.agg (l++[w])))):=by
 obtain ⟨h1,h2,h3,h4⟩:=rowT_spec ht
 have he:=elems_row (P:=P) hm
 simp only [List.length_singleton] at he
 simp [aBuiltin,h1,h2,aAppend,he,aOwnRow,hn,h3,h4,hl,AH.kill]
def Buf (e:TypeId) (h:AH) (x:V) (l:List Int):Prop :=
 (x=.slc none 0∧l=[])∨∃ n,n < h.next∧x=.slc (some (⟨n,.row e,[]⟩,0)) l.length∧h.m n=some (.cells true (.row e) (.agg (l.map (V.int .u8))))
theorem Buf.grow {e:TypeId} {h:AH} {x:V} {l:List Int} (b:Buf e h x l) (o:AO):Buf e (h.make o) x l:=by
 rcases b with ⟨h1,h2⟩ | ⟨n,h1,h2,h3⟩
 · exact .inl ⟨h1,h2⟩
 · refine .inr ⟨n,by rw [make_next];omega,h2,?_⟩
   rw [make_m,if_neg (by omega)];exact h3
theorem Buf.push {t e:TypeId} {h:AH} {x:V} {l:List Int} (b:Buf e h x l) (ht:rowT P t e=true) (w:Int) (hl:l.length + 1≤140737488355328) :
   ∃ v h',aBuiltin P (h.make (.cells true (.row e) (.agg [.int .u8 w]))) .append [t,t] [x,.slc (some (⟨h.next,.row e,[]⟩,0)) 1]=some (v,h')∧Buf e h' v (l++[w]):=by
 have hm:(h.make (.cells true (.row e) (.agg [.int .u8 w]))).m h.next=some (.cells true (.row e) (.agg [.int .u8 w])):=by rw [make_m,if_pos rfl]
 rcases b with ⟨h1,h2⟩ | ⟨n,h1,h2,h3⟩
 · subst h1;subst h2
   refine ⟨_,_,app_new ht hm,.inr ⟨_,?_,rfl,?_⟩⟩
   · simp only [make_next];omega
   · rw [make_m,if_pos rfl];rfl
 · subst h2
   have hn:(h.make (.cells true (.row e) (.agg [.int .u8 w]))).m n=some (.cells true (.row e) (.agg (l.map (V.int .u8)))):=by rw [make_m,if_neg (by omega)];exact h3
   have:=app_row (P:=P) ht hn hm (by simpa using hl)
   simp only [List.length_map] at this
   refine ⟨_,_,this,.inr ⟨_,?_,by rw [List.length_append];rfl,?_⟩⟩
   · simp only [make_next,AH.kill];omega
   · have e:(h.make (.cells true (.row e) (.agg [.int .u8 w]))).next=((h.make (.cells true (.row e) (.agg [.int .u8 w]))).kill n).next:=rfl
     rw [make_m,if_pos e];simp
theorem toBytes_map:∀ l:List Int,toBytes (l.map (V.int .u8))=some (l.map fun n=>UInt8.ofNat n.toNat)
 | []=>rfl
 | x :: l=>by simp [toBytes,toBytes_map l]
def bsT (P:Program) (t d e:TypeId):Bool :=
 (match ul P t with | some (.slice e')=>e' == e | _=>false) && (match ul P d with | some .string=>true | _=>false) && (match ul P e with | some (.int .u8)=>true | _=>false)
theorem Buf.str {t d e:TypeId} {h:AH} {x:V} {l:List Int} (b:Buf e h x l) (ht:bsT P t d e=true):aConv P h t d x=some (.str (l.map fun n=>UInt8.ofNat n.toNat)):=by
 unfold bsT at ht
 simp only [Bool.and_eq_true] at ht
 obtain ⟨⟨h1,h2⟩,h3⟩:=ht
 have hu:ul P t=some (.slice e):=by
   split at h1
   · rename_i e' hu;simp only [beq_iff_eq] at h1;subst h1;exact hu
   · cases h1
 have hd:ul P d=some .string:=by
   split at h2
   · assumption
   · cases h2
 have he:ul P e=some (.int .u8):=by
   split at h3
   · assumption
   · cases h3
 rcases b with ⟨h1,h2⟩ | ⟨n,h1,h2,h3⟩
 · subst h1;subst h2
   simp [aConv,aBytesStr,hu,hd,he,aElems,toBytes]
 · subst h2
   have:=elems_row (P:=P) h3
   simp only [List.length_map] at this
   simp [aConv,aBytesStr,hu,hd,he,this,toBytes_map]
end Go.Ab
namespace Go.Gr
end Go.Gr
