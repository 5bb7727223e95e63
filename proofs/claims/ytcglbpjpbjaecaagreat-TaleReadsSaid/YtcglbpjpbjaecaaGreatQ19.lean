import Derived.Test.YtcglbpjpbjaecaaGreatQ18
import Derived.Test.YtcglbpjpbjaecaaGreatQ15
import Derived.Test.YtcglbpjpbjaecaaGreatQ17
set_option linter.unusedVariables false
set_option linter.unusedSimpArgs false
namespace Go.Proofs.YtcglbpjpbjaecaaGreat.Sh
open Go Go.Ab Go.RowKit
open Go.Proofs.YtcglbpjpbjaecaaGreat.Ru (Pg okP)
set_option maxRecDepth 10000
noncomputable def keysHm:HmF:=fun R f args H K z=>match Nat.beq f 246 with
 | true=>(match args with
   | [.map (some n)]=>(match H.get n with
     | some (.mp kt et es)=>bif Nat.beq kt 22 && (Nat.beq et 399 && Nat.blt n H.next) then (match es with
       | []=>K (.slc none 0) H
       | [(.int .u16 k,_)]=>H.leap 3 (.cells true (.row 22) (.agg [.int .u16 k])) fun r H=>K (.slc (some (⟨r,.row 22,[]⟩,0)) 1) H
       | _=>z) else z
     | _=>z)
   | _=>z)
 | false=>z
theorem keysHm_ok:HmOk Pg keysHm:=by
 intro R f args H K z r how h
 unfold keysHm at h
 split at h
 · rename_i hf
   obtain rfl:=Nat.eq_of_beq_eq_true hf
   split at h
   · rename_i n
     split at h
     · rename_i kt et es hm
       have hm':H.ah.m n=some (.mp kt et es):=hm
       cases hb:(Nat.beq kt 22 && (Nat.beq et 399 && Nat.blt n H.next)) with
       | false=>rw [hb] at h;exact .inl h
       | true =>
         rw [hb] at h
         simp only [Bool.and_eq_true] at hb
         obtain ⟨h1,h2,h3⟩:=hb
         have h1:=Nat.eq_of_beq_eq_true h1
         have h2:=Nat.eq_of_beq_eq_true h2
         subst h1;subst h2
         have h3:n < H.ah.next:=by rw [Nat.blt_eq] at h3;exact h3
         simp only [cond_true] at h
         split at h
         · refine .inr ⟨_,H,HT.ext.refl _,h,by kernel_rfl,(sorted0 n H.ah h3 hm').mono fun e h' q=>?_⟩
           cases e with
           | ret u=>obtain ⟨rfl,rfl⟩:=q;exact ⟨rfl,rfl⟩
           | panic _=>exact q.elim
         · rename_i k v
           obtain ⟨H',k1,k2,k3,k4⟩:=H.leap_spec 3 (.cells true (.row 22) (.agg [.int .u16 k])) rfl
           rw [k1] at h
           exact .inr ⟨_,H',k4,h,by kernel_rfl,sorted1 n H.ah h3 k v hm' H'.ah k2 k3⟩
         · exact .inl h
     · exact .inl h
   · exact .inl h
 · exact .inl h
end Go.Proofs.YtcglbpjpbjaecaaGreat.Sh
namespace Go.Proofs.YtcglbpjpbjaecaaGreat.Ru
open Go Go.Ab Go.RowKit
open Go.Proofs.YtcglbpjpbjaecaaGreat.Sj
set_option maxRecDepth 10000
noncomputable def hdT:HdF:=fun f a=>match Nat.beq f 111 with
 | true=>(match a with
   | [.str s,.str [c]]=>bif Nat.ble s.length 4611686018427387904 then some (.tup [.str (cutAt c s).1,.str (cutAt c s).2.1,.bool (cutAt c s).2.2]) else none
   | _=>none)
 | false=>hdW f a
theorem hdT_ok (hh:HdOk Pg hd):HdOk Pg hdT:=by
 intro f args v hv
 unfold hdT at hv
 split at hv
 · rename_i hf
   obtain rfl:=Nat.eq_of_beq_eq_true hf
   split at hv
   · obtain ⟨hc,hv2⟩:=bif_some hv
     simp only [Option.some.injEq] at hv2;subst hv2
     exact ⟨by kernel_rfl,fun h=>cutP _ _ (Nat.le_of_ble_eq_true hc) h⟩
   · cases hv
 · exact hdW_ok hh f args v hv
def strsV:List V→Option (List (List UInt8))
 | []=>some []
 | .str s :: l=>(match strsV l with
   | some ss=>some (s :: ss)
   | none=>none)
 | _=>none
theorem strsV_eq:∀ {l:List V} {ss:List (List UInt8)},strsV l=some ss→l=ss.map V.str
 | [],ss,h=>by simp only [strsV,Option.some.injEq] at h;subst h;rfl
 | v :: l,ss,h=>by
   cases v with
   | str s =>
     simp only [strsV] at h
     split at h
     · rename_i t ht
       cases h
       rw [strsV_eq ht];rfl
     · cases h
   | _=>cases h
def bytesOfV:List V→Option (List UInt8)
 | []=>some []
 | .int .u8 (.ofNat n) :: l=>(match bytesOfV l with
   | some ss=>bif Nat.blt n 256 then some (UInt8.ofNat n :: ss) else none
   | none=>none)
 | _=>none
theorem bytesOfV_eq:∀ {l:List V} {s:List UInt8},bytesOfV l=some s→l=bytesV s
 | [],ss,h=>by simp only [bytesOfV,Option.some.injEq] at h;subst h;rfl
 | v :: l,ss,h=>by
   unfold bytesOfV at h
   split at h
   · rename_i h1;cases h1
   · rename_i n l' h1
     cases h1
     split at h
     · rename_i t ht
       obtain ⟨hc,h2⟩:=bif_some h
       cases h2
       rw [bytesOfV_eq ht]
       rw [Nat.blt_eq] at hc
       have:(UInt8.ofNat n).toNat=n:=by simp;omega
       show _=V.int .u8 ((UInt8.ofNat n).toNat:Nat) :: _
       rw [this];rfl
     · cases h
   · cases h
noncomputable def wordsHm:HmF:=fun R f args H K z=>match Nat.beq f 115 with
 | true=>(match args with
   | [.slc (some (⟨n,.row 9,[]⟩,0)) k]=>(match H.get n with
     | some (.cells own (.row 9) (.agg es))=>(match strsV es with
       | some ss=>bif Nat.beq es.length k && (Nat.ble 1 k && (Nat.ble k 1000 && Nat.ble (Sh.jn ss).length 140737488355328)) then fStr (Sh.jn ss) fun s=>K (.str s) H else z
       | none=>z)
     | _=>z)
   | _=>z)
 | false=>z
theorem wordsHm_ok:HmOk Pg wordsHm:=by
 intro R f args H K z r how h
 unfold wordsHm at h
 split at h
 · rename_i hf
   obtain rfl:=Nat.eq_of_beq_eq_true hf
   split at h
   · rename_i n k
     split at h
     · rename_i own es hm
       have hm':H.ah.m n=some (.cells own (.row 9) (.agg es)):=hm
       split at h
       · rename_i ss hss
         have he:=strsV_eq hss
         subst he
         cases hb:(Nat.beq (ss.map V.str).length k && (Nat.ble 1 k && (Nat.ble k 1000 && Nat.ble (Sh.jn ss).length 140737488355328))) with
         | false=>rw [hb] at h;exact .inl h
         | true =>
           rw [hb] at h
           simp only [Bool.and_eq_true,cond_true,fStr_eq] at hb h
           obtain ⟨h1,h2,h3,h4⟩:=hb
           have h1:=Nat.eq_of_beq_eq_true h1
           have h2:=Nat.le_of_ble_eq_true h2
           have h3:=Nat.le_of_ble_eq_true h3
           have h4:=Nat.le_of_ble_eq_true h4
           rw [List.length_map] at h1
           subst h1
           refine .inr ⟨_,H,HT.ext.refl _,h,by kernel_rfl,(Sh.wordsP n own ss H.ah hm' h3 (by intro e;subst e;simp at h2) h4).mono fun e h' q=>?_⟩
           cases e with
           | ret u=>obtain ⟨rfl,rfl⟩:=q;exact ⟨rfl,rfl⟩
           | panic _=>exact q.elim
       · exact .inl h
     · exact .inl h
   · exact .inl h
 · exact .inl h
def selfP (n:Nat):V→Bool
 | .ptr none=>true
 | .ptr (some ⟨m,.one t,[]⟩)=>Nat.beq m n && Nat.beq t 233
 | _=>false
theorem selfP_eq {n:Nat} {p:V} (h:selfP n p=true):p=.ptr none∨p=bp n:=by
 unfold selfP at h
 split at h
 · exact .inl rfl
 · rw [Bool.and_eq_true] at h
   rw [Nat.eq_of_beq_eq_true h.1,Nat.eq_of_beq_eq_true h.2]
   exact .inr rfl
 · cases h
def isSlc:V→Bool
 | .slc _ _=>true
 | _=>false
noncomputable def copyHm:HmF:=fun R f args H K z=>match Nat.beq f 199 with
 | true=>(match args with
   | [.ptr (some ⟨n,.one 233,[]⟩)]=>(match H.get n with
     | some (.cells true (.one 233) (.agg [p,y]))=>bif selfP n p && isSlc y then H.put n (.cells true (.one 233) (.agg [.ptr (some ⟨n,.one 233,[]⟩),y])) fun H=>K (.tup []) H else z
     | _=>z)
   | _=>z)
 | false=>z
theorem copyHm_ok:HmOk Pg copyHm:=by
 intro R f args H K z r how h
 unfold copyHm at h
 split at h
 · rename_i hf
   obtain rfl:=Nat.eq_of_beq_eq_true hf
   split at h
   · rename_i n
     split at h
     · rename_i p y hm
       have hm':H.ah.m n=some (.cells true (.one 233) (.agg [p,y])):=hm
       cases hb:(selfP n p && isSlc y) with
       | false=>rw [hb] at h;exact .inl h
       | true =>
         rw [hb] at h
         simp only [Bool.and_eq_true,cond_true] at hb h
         obtain ⟨H',k1,k2,k3⟩:=H.put_spec n (.cells true (.one 233) (.agg [.ptr (some ⟨n,.one 233,[]⟩),y])) rfl
         rw [k1] at h
         refine .inr ⟨_,H',k3,h,by kernel_rfl,(copyP n y p (selfP_eq hb.1) ?_ hm').mono fun e h' q=>⟨q.1,q.2.trans k2.symm⟩⟩
         intro l hl
         rw [hl] at hb
         cases hb.2
     · exact .inl h
   · exact .inl h
 · exact .inl h
noncomputable def stringHm:HmF:=fun R f args H K z=>match Nat.beq f 125 with
 | true=>(match args with
   | [.ptr (some ⟨n,.one 233,[]⟩)]=>(match H.get n with
     | some (.cells true (.one 233) (.agg [p,.slc (some (⟨m,.row 5,[]⟩,0)) k]))=>(match H.get m with
       | some (.cells true (.row 5) (.agg es))=>(match bytesOfV es with
         | some s=>bif selfP n p && (Nat.beq s.length k && (Nat.ble 1 k && Nat.ble k 140737488355328)) then H.kill m fun H=>fStr s fun s=>K (.str s) H else z
         | none=>z)
       | _=>z)
     | _=>z)
   | _=>z)
 | false=>z
theorem stringHm_ok:HmOk Pg stringHm:=by
 intro R f args H K z r how h
 unfold stringHm at h
 split at h
 · rename_i hf
   obtain rfl:=Nat.eq_of_beq_eq_true hf
   split at h
   · rename_i n
     split at h
     · rename_i p m k hm
       have hm':H.ah.m n=some (.cells true (.one 233) (.agg [p,.slc (some (⟨m,.row 5,[]⟩,0)) k])):=hm
       split at h
       · rename_i es hr
         have hr':H.ah.m m=some (.cells true (.row 5) (.agg es)):=hr
         split at h
         · rename_i s hs
           have hs:=bytesOfV_eq hs
           subst hs
           cases hb:(selfP n p && (Nat.beq s.length k && (Nat.ble 1 k && Nat.ble k 140737488355328))) with
           | false=>rw [hb] at h;exact .inl h
           | true =>
             rw [hb] at h
             simp only [Bool.and_eq_true,cond_true] at hb h
             obtain ⟨b1,b2,b3,b4⟩:=hb
             have b2:=Nat.eq_of_beq_eq_true b2
             have b3:=Nat.le_of_ble_eq_true b3
             have b4:=Nat.le_of_ble_eq_true b4
             subst b2
             obtain ⟨H',k1,k2,k3⟩:=H.kill_spec m
             rw [k1,fStr_eq] at h
             exact .inr ⟨_,H',k3,h,by kernel_rfl,(stringK n m p s b4 (by intro e;subst e;simp at b3) (selfP_eq b1) hm' hr').mono fun e h' q=>⟨q.1,q.2.trans k2.symm⟩⟩
         · exact .inl h
       · exact .inl h
     · exact .inl h
   · exact .inl h
 · exact .inl h
noncomputable def hmT:HmF:=orMemo Sh.keysHm (orMemo wordsHm (orMemo copyHm stringHm))
theorem hmT_ok:HmOk Pg hmT:=orMemo_ok Sh.keysHm_ok (orMemo_ok wordsHm_ok (orMemo_ok copyHm_ok stringHm_ok))
end Go.Proofs.YtcglbpjpbjaecaaGreat.Ru
namespace Go.Ab
open Go
def i6_ (n:Int):V:=.int .i64 n
def u6_ (n:Int):V:=.int .u64 n
def u3_ (n:Int):V:=.int .u32 n
def u1_ (n:Int):V:=.int .u16 n
def u8_ (n:Int):V:=.int .u8 n
def k2_ (a b:Int):V:=.agg [.int .i64 a,.int .i64 b]
noncomputable def p0_:V:=.agg (pkV 64 0)
def pt_ (n t:Nat):V:=.ptr (some ⟨n,.one t,[]⟩)
def sl_ (n t k:Nat):V:=.slc (some (⟨n,.row t,[]⟩,0)) k
def sn_:V:=.slc none 0
def pn_:V:=.ptr none
def s0_:V:=.str []
def bt_:V:=.bool true
def bf_:V:=.bool false
def co_ (n t:Nat) (v:V):Nat × Option AO:=(n,some (.cells true (.one t) v))
def cr_ (n t:Nat) (l:List V):Nat × Option AO:=(n,some (.cells true (.row t) (.agg l)))
def ag_ (l:List V):V:=.agg l
noncomputable def pv_ (n m:Nat):V:=.agg (pkV n m)
end Go.Ab
namespace Go.Proofs.YtcglbpjpbjaecaaGreat.Ru
open Go Go.Ab Go.RowKit
set_option maxRecDepth 100000
noncomputable def TaL0:List (V × V):=[((k2_ 0 0),p0_),
 ((k2_ 0 1),p0_),
 ((k2_ 0 2),p0_),
 ((k2_ 0 3),p0_),
 ((k2_ 1 0),p0_),
 ((k2_ 1 1),p0_),
 ((k2_ 1 2),p0_),
 ((k2_ 1 3),p0_),
 ((k2_ 2 0),(pv_ 64 33506406212567041)),
 ((k2_ 2 1),p0_),
 ((k2_ 2 2),p0_),
 ((k2_ 2 3),p0_),
 ((k2_ 3 0),(pv_ 64 36048469110030593)),
 ((k2_ 3 1),p0_),
 ((k2_ 3 2),p0_),
 ((k2_ 3 3),p0_),
 ((k2_ 4 0),(pv_ 64 47692561942315010)),
 ((k2_ 4 1),p0_),
 ((k2_ 4 2),p0_),
 ((k2_ 4 3),p0_),
 ((k2_ 5 0),(pv_ 64 26573149508206850)),
 ((k2_ 5 1),p0_),
 ((k2_ 5 2),p0_),
 ((k2_ 5 3),p0_),
 ((k2_ 6 0),p0_),
 ((k2_ 6 1),p0_),
 ((k2_ 6 2),p0_),
 ((k2_ 6 3),p0_),
 ((k2_ 7 0),p0_),
 ((k2_ 7 1),p0_),
 ((k2_ 7 2),p0_),
 ((k2_ 7 3),p0_),
 ((k2_ 8 0),p0_),
 ((k2_ 8 1),p0_),
 ((k2_ 8 2),p0_),
 ((k2_ 8 3),p0_),
 ((k2_ 9 0),p0_),
 ((k2_ 9 1),p0_),
 ((k2_ 9 2),p0_),
 ((k2_ 9 3),p0_),
 ((k2_ 10 0),p0_),
 ((k2_ 10 1),p0_),
 ((k2_ 10 2),p0_),
 ((k2_ 10 3),p0_),
 ((k2_ 11 0),p0_),
 ((k2_ 11 1),p0_),
 ((k2_ 11 2),p0_),
 ((k2_ 11 3),p0_),
 ((k2_ 12 0),p0_),
 ((k2_ 12 1),p0_),
 ((k2_ 12 2),p0_),
 ((k2_ 12 3),p0_),
 ((k2_ 13 0),p0_),
 ((k2_ 13 1),p0_),
 ((k2_ 13 2),p0_),
 ((k2_ 13 3),p0_),
 ((k2_ 14 0),p0_),
 ((k2_ 14 1),p0_),
 ((k2_ 14 2),p0_),
 ((k2_ 14 3),p0_),
 ((k2_ 15 0),p0_),
 ((k2_ 15 1),p0_),
 ((k2_ 15 2),p0_),
 ((k2_ 15 3),p0_),
 ((k2_ 16 0),p0_),
 ((k2_ 16 1),p0_),
 ((k2_ 16 2),p0_),
 ((k2_ 16 3),p0_),
 ((k2_ 17 0),p0_),
 ((k2_ 17 1),p0_),
 ((k2_ 17 2),p0_),
 ((k2_ 17 3),p0_),
 ((k2_ 18 0),p0_),
 ((k2_ 18 1),p0_),
 ((k2_ 18 2),p0_),
 ((k2_ 18 3),p0_),
 ((k2_ 19 0),p0_),
 ((k2_ 19 1),p0_),
 ((k2_ 19 2),p0_),
 ((k2_ 19 3),p0_),
 ((k2_ 20 0),p0_),
 ((k2_ 20 1),p0_),
 ((k2_ 20 2),p0_),
 ((k2_ 20 3),p0_),
 ((k2_ 21 0),p0_),
 ((k2_ 21 1),p0_),
 ((k2_ 21 2),p0_),
 ((k2_ 21 3),p0_),
 ((k2_ 22 0),p0_),
 ((k2_ 22 1),p0_),
 ((k2_ 22 2),p0_),
 ((k2_ 22 3),p0_),
 ((k2_ 23 0),p0_),
 ((k2_ 23 1),p0_),
 ((k2_ 23 2),p0_),
 ((k2_ 23 3),p0_),
 ((k2_ 24 0),p0_),
 ((k2_ 24 1),p0_),
 ((k2_ 24 2),p0_),
 ((k2_ 24 3),p0_),
 ((k2_ 25 0),p0_),
 ((k2_ 25 1),p0_),
 ((k2_ 25 2),p0_),
 ((k2_ 25 3),p0_),
 ((k2_ 26 0),p0_),
 ((k2_ 26 1),p0_),
 ((k2_ 26 2),p0_),
 ((k2_ 26 3),p0_),
 ((k2_ 27 0),p0_),
 ((k2_ 27 1),p0_),
 ((k2_ 27 2),p0_),
 ((k2_ 27 3),p0_),
 ((k2_ 28 0),p0_),
 ((k2_ 28 1),p0_),
 ((k2_ 28 2),p0_),
 ((k2_ 28 3),p0_),
 ((k2_ 29 0),p0_),
 ((k2_ 29 1),p0_),
 ((k2_ 29 2),p0_),
 ((k2_ 29 3),p0_),
 ((k2_ 30 0),p0_),
 ((k2_ 30 1),p0_),
 ((k2_ 30 2),p0_),
 ((k2_ 30 3),p0_),
 ((k2_ 31 0),p0_),
 ((k2_ 31 1),p0_),
 ((k2_ 31 2),p0_),
 ((k2_ 31 3),p0_),
 ((k2_ 32 0),p0_),
 ((k2_ 32 1),p0_),
 ((k2_ 32 2),p0_),
 ((k2_ 32 3),p0_),
 ((k2_ 33 0),p0_),
 ((k2_ 33 1),p0_),
 ((k2_ 33 2),p0_),
 ((k2_ 33 3),p0_),
 ((k2_ 34 0),p0_),
 ((k2_ 34 1),p0_),
 ((k2_ 34 2),p0_),
 ((k2_ 34 3),p0_),
 ((k2_ 35 0),p0_),
 ((k2_ 35 1),p0_),
 ((k2_ 35 2),p0_),
 ((k2_ 35 3),p0_),
 ((k2_ 36 0),p0_),
 ((k2_ 36 1),p0_),
 ((k2_ 36 2),p0_),
 ((k2_ 36 3),p0_),
 ((k2_ 37 0),p0_),
 ((k2_ 37 1),p0_),
 ((k2_ 37 2),p0_),
 ((k2_ 37 3),p0_),
 ((k2_ 38 0),p0_),
 ((k2_ 38 1),p0_),
 ((k2_ 38 2),p0_),
 ((k2_ 38 3),p0_),
 ((k2_ 39 0),p0_),
 ((k2_ 39 1),p0_),
 ((k2_ 39 2),p0_),
 ((k2_ 39 3),p0_),
 ((k2_ 40 0),p0_),
 ((k2_ 40 1),p0_),
 ((k2_ 40 2),p0_),
 ((k2_ 40 3),p0_),
 ((k2_ 41 0),p0_),
 ((k2_ 41 1),p0_),
 ((k2_ 41 2),p0_),
 ((k2_ 41 3),p0_),
 ((k2_ 42 0),p0_),
 ((k2_ 42 1),p0_),
 ((k2_ 42 2),p0_),
 ((k2_ 42 3),p0_),
 ((k2_ 43 0),p0_),
 ((k2_ 43 1),p0_),
 ((k2_ 43 2),p0_),
 ((k2_ 43 3),p0_),
 ((k2_ 44 0),p0_),
 ((k2_ 44 1),p0_),
 ((k2_ 44 2),p0_),
 ((k2_ 44 3),p0_),
 ((k2_ 45 0),p0_),
 ((k2_ 45 1),p0_),
 ((k2_ 45 2),p0_),
 ((k2_ 45 3),p0_),
 ((k2_ 46 0),p0_),
 ((k2_ 46 1),p0_),
 ((k2_ 46 2),p0_),
 ((k2_ 46 3),p0_),
 ((k2_ 47 0),p0_),
 ((k2_ 47 1),p0_),
 ((k2_ 47 2),p0_),
 ((k2_ 47 3),p0_),
 ((k2_ 48 0),p0_),
 ((k2_ 48 1),p0_),
 ((k2_ 48 2),p0_),
 ((k2_ 48 3),p0_),
 ((k2_ 49 0),p0_),
 ((k2_ 49 1),p0_),
 ((k2_ 49 2),p0_),
 ((k2_ 49 3),p0_),
 ((k2_ 50 0),p0_),
 ((k2_ 50 1),p0_),
 ((k2_ 50 2),p0_),
 ((k2_ 50 3),p0_),
 ((k2_ 51 0),p0_),
 ((k2_ 51 1),p0_),
 ((k2_ 51 2),p0_),
 ((k2_ 51 3),p0_),
 ((k2_ 52 0),p0_),
 ((k2_ 52 1),p0_),
 ((k2_ 52 2),p0_),
 ((k2_ 52 3),p0_),
 ((k2_ 53 0),p0_),
 ((k2_ 53 1),p0_),
 ((k2_ 53 2),p0_),
 ((k2_ 53 3),p0_),
 ((k2_ 54 0),p0_),
 ((k2_ 54 1),p0_),
 ((k2_ 54 2),p0_),
 ((k2_ 54 3),p0_),
 ((k2_ 55 0),p0_),
 ((k2_ 55 1),p0_),
 ((k2_ 55 2),p0_),
 ((k2_ 55 3),p0_),
 ((k2_ 56 0),p0_),
 ((k2_ 56 1),p0_),
 ((k2_ 56 2),p0_),
 ((k2_ 56 3),p0_),
 ((k2_ 57 0),p0_),
 ((k2_ 57 1),p0_),
 ((k2_ 57 2),p0_),
 ((k2_ 57 3),p0_),
 ((k2_ 58 0),p0_),
 ((k2_ 58 1),p0_),
 ((k2_ 58 2),p0_),
 ((k2_ 58 3),p0_),
 ((k2_ 59 0),p0_),
 ((k2_ 59 1),p0_),
 ((k2_ 59 2),p0_),
 ((k2_ 59 3),p0_),
 ((k2_ 60 0),p0_),
 ((k2_ 60 1),p0_),
 ((k2_ 60 2),p0_),
 ((k2_ 60 3),p0_),
 ((k2_ 61 0),p0_),
 ((k2_ 61 1),p0_),
 ((k2_ 61 2),p0_),
 ((k2_ 61 3),p0_),
 ((k2_ 62 0),p0_),
 ((k2_ 62 1),p0_),
 ((k2_ 62 2),p0_),
 ((k2_ 62 3),p0_),
 ((k2_ 63 0),p0_),
 ((k2_ 63 1),p0_),
 ((k2_ 63 2),p0_),
 ((k2_ 63 3),p0_),
 ((k2_ 64 0),p0_),
 ((k2_ 64 1),p0_),
 ((k2_ 64 2),p0_),
 ((k2_ 64 3),p0_),
 ((k2_ 65 0),p0_),
 ((k2_ 65 1),p0_),
 ((k2_ 65 2),p0_),
 ((k2_ 65 3),p0_),
 ((k2_ 66 0),p0_),
 ((k2_ 66 1),p0_),
 ((k2_ 66 2),p0_),
 ((k2_ 66 3),p0_),
 ((k2_ 67 0),p0_),
 ((k2_ 67 1),p0_),
 ((k2_ 67 2),p0_),
 ((k2_ 67 3),p0_),
 ((k2_ 68 0),p0_),
 ((k2_ 68 1),p0_),
 ((k2_ 68 2),p0_),
 ((k2_ 68 3),p0_),
 ((k2_ 69 0),p0_),
 ((k2_ 69 1),p0_),
 ((k2_ 69 2),p0_),
 ((k2_ 69 3),p0_)]
noncomputable def TaL1:List V:=[(ag_ [(k2_ 0 0),p0_]),
 (ag_ [(k2_ 0 1),p0_]),
 (ag_ [(k2_ 0 2),p0_]),
 (ag_ [(k2_ 0 3),p0_]),
 (ag_ [(k2_ 1 0),p0_]),
 (ag_ [(k2_ 1 1),p0_]),
 (ag_ [(k2_ 1 2),p0_]),
 (ag_ [(k2_ 1 3),p0_]),
 (ag_ [(k2_ 2 0),(pv_ 64 33506406212567041)]),
 (ag_ [(k2_ 2 1),p0_]),
 (ag_ [(k2_ 2 2),p0_]),
 (ag_ [(k2_ 2 3),p0_]),
 (ag_ [(k2_ 3 0),(pv_ 64 36048469110030593)]),
 (ag_ [(k2_ 3 1),p0_]),
 (ag_ [(k2_ 3 2),p0_]),
 (ag_ [(k2_ 3 3),p0_]),
 (ag_ [(k2_ 4 0),(pv_ 64 47692561942315010)]),
 (ag_ [(k2_ 4 1),p0_]),
 (ag_ [(k2_ 4 2),p0_]),
 (ag_ [(k2_ 4 3),p0_]),
 (ag_ [(k2_ 5 0),(pv_ 64 26573149508206850)]),
 (ag_ [(k2_ 5 1),p0_]),
 (ag_ [(k2_ 5 2),p0_]),
 (ag_ [(k2_ 5 3),p0_]),
 (ag_ [(k2_ 6 0),p0_]),
 (ag_ [(k2_ 6 1),p0_]),
 (ag_ [(k2_ 6 2),p0_]),
 (ag_ [(k2_ 6 3),p0_]),
 (ag_ [(k2_ 7 0),p0_]),
 (ag_ [(k2_ 7 1),p0_]),
 (ag_ [(k2_ 7 2),p0_]),
 (ag_ [(k2_ 7 3),p0_]),
 (ag_ [(k2_ 8 0),p0_]),
 (ag_ [(k2_ 8 1),p0_]),
 (ag_ [(k2_ 8 2),p0_]),
 (ag_ [(k2_ 8 3),p0_]),
 (ag_ [(k2_ 9 0),p0_]),
 (ag_ [(k2_ 9 1),p0_]),
 (ag_ [(k2_ 9 2),p0_]),
 (ag_ [(k2_ 9 3),p0_]),
 (ag_ [(k2_ 10 0),p0_]),
 (ag_ [(k2_ 10 1),p0_]),
 (ag_ [(k2_ 10 2),p0_]),
 (ag_ [(k2_ 10 3),p0_]),
 (ag_ [(k2_ 11 0),p0_]),
 (ag_ [(k2_ 11 1),p0_]),
 (ag_ [(k2_ 11 2),p0_]),
 (ag_ [(k2_ 11 3),p0_]),
 (ag_ [(k2_ 12 0),p0_]),
 (ag_ [(k2_ 12 1),p0_]),
 (ag_ [(k2_ 12 2),p0_]),
 (ag_ [(k2_ 12 3),p0_]),
 (ag_ [(k2_ 13 0),p0_]),
 (ag_ [(k2_ 13 1),p0_]),
 (ag_ [(k2_ 13 2),p0_]),
 (ag_ [(k2_ 13 3),p0_]),
 (ag_ [(k2_ 14 0),p0_]),
 (ag_ [(k2_ 14 1),p0_]),
 (ag_ [(k2_ 14 2),p0_]),
 (ag_ [(k2_ 14 3),p0_]),
 (ag_ [(k2_ 15 0),p0_]),
 (ag_ [(k2_ 15 1),p0_]),
 (ag_ [(k2_ 15 2),p0_]),
 (ag_ [(k2_ 15 3),p0_]),
 (ag_ [(k2_ 16 0),p0_]),
 (ag_ [(k2_ 16 1),p0_]),
 (ag_ [(k2_ 16 2),p0_]),
 (ag_ [(k2_ 16 3),p0_]),
 (ag_ [(k2_ 17 0),p0_]),
 (ag_ [(k2_ 17 1),p0_]),
 (ag_ [(k2_ 17 2),p0_]),
 (ag_ [(k2_ 17 3),p0_]),
 (ag_ [(k2_ 18 0),p0_]),
 (ag_ [(k2_ 18 1),p0_]),
 (ag_ [(k2_ 18 2),p0_]),
 (ag_ [(k2_ 18 3),p0_]),
 (ag_ [(k2_ 19 0),p0_]),
 (ag_ [(k2_ 19 1),p0_]),
 (ag_ [(k2_ 19 2),p0_]),
 (ag_ [(k2_ 19 3),p0_]),
 (ag_ [(k2_ 20 0),p0_]),
 (ag_ [(k2_ 20 1),p0_]),
 (ag_ [(k2_ 20 2),p0_]),
 (ag_ [(k2_ 20 3),p0_]),
 (ag_ [(k2_ 21 0),p0_]),
 (ag_ [(k2_ 21 1),p0_]),
 (ag_ [(k2_ 21 2),p0_]),
 (ag_ [(k2_ 21 3),p0_]),
 (ag_ [(k2_ 22 0),p0_]),
 (ag_ [(k2_ 22 1),p0_]),
 (ag_ [(k2_ 22 2),p0_]),
 (ag_ [(k2_ 22 3),p0_]),
 (ag_ [(k2_ 23 0),p0_]),
 (ag_ [(k2_ 23 1),p0_]),
 (ag_ [(k2_ 23 2),p0_]),
 (ag_ [(k2_ 23 3),p0_]),
 (ag_ [(k2_ 24 0),p0_]),
 (ag_ [(k2_ 24 1),p0_]),
 (ag_ [(k2_ 24 2),p0_]),
 (ag_ [(k2_ 24 3),p0_]),
 (ag_ [(k2_ 25 0),p0_]),
 (ag_ [(k2_ 25 1),p0_]),
 (ag_ [(k2_ 25 2),p0_]),
 (ag_ [(k2_ 25 3),p0_]),
 (ag_ [(k2_ 26 0),p0_]),
 (ag_ [(k2_ 26 1),p0_]),
 (ag_ [(k2_ 26 2),p0_]),
 (ag_ [(k2_ 26 3),p0_]),
 (ag_ [(k2_ 27 0),p0_]),
 (ag_ [(k2_ 27 1),p0_]),
 (ag_ [(k2_ 27 2),p0_]),
 (ag_ [(k2_ 27 3),p0_]),
 (ag_ [(k2_ 28 0),p0_]),
 (ag_ [(k2_ 28 1),p0_]),
 (ag_ [(k2_ 28 2),p0_]),
 (ag_ [(k2_ 28 3),p0_]),
 (ag_ [(k2_ 29 0),p0_]),
 (ag_ [(k2_ 29 1),p0_]),
 (ag_ [(k2_ 29 2),p0_]),
 (ag_ [(k2_ 29 3),p0_]),
 (ag_ [(k2_ 30 0),p0_]),
 (ag_ [(k2_ 30 1),p0_]),
 (ag_ [(k2_ 30 2),p0_]),
 (ag_ [(k2_ 30 3),p0_]),
 (ag_ [(k2_ 31 0),p0_]),
 (ag_ [(k2_ 31 1),p0_]),
 (ag_ [(k2_ 31 2),p0_]),
 (ag_ [(k2_ 31 3),p0_]),
 (ag_ [(k2_ 32 0),p0_]),
 (ag_ [(k2_ 32 1),p0_]),
 (ag_ [(k2_ 32 2),p0_]),
 (ag_ [(k2_ 32 3),p0_]),
 (ag_ [(k2_ 33 0),p0_]),
 (ag_ [(k2_ 33 1),p0_]),
 (ag_ [(k2_ 33 2),p0_]),
 (ag_ [(k2_ 33 3),p0_]),
 (ag_ [(k2_ 34 0),p0_]),
 (ag_ [(k2_ 34 1),p0_]),
 (ag_ [(k2_ 34 2),p0_]),
 (ag_ [(k2_ 34 3),p0_]),
 (ag_ [(k2_ 35 0),p0_]),
 (ag_ [(k2_ 35 1),p0_]),
 (ag_ [(k2_ 35 2),p0_]),
 (ag_ [(k2_ 35 3),p0_]),
 (ag_ [(k2_ 36 0),p0_]),
 (ag_ [(k2_ 36 1),p0_]),
 (ag_ [(k2_ 36 2),p0_]),
 (ag_ [(k2_ 36 3),p0_]),
 (ag_ [(k2_ 37 0),p0_]),
 (ag_ [(k2_ 37 1),p0_]),
 (ag_ [(k2_ 37 2),p0_]),
 (ag_ [(k2_ 37 3),p0_]),
 (ag_ [(k2_ 38 0),p0_]),
 (ag_ [(k2_ 38 1),p0_]),
 (ag_ [(k2_ 38 2),p0_]),
 (ag_ [(k2_ 38 3),p0_]),
 (ag_ [(k2_ 39 0),p0_]),
 (ag_ [(k2_ 39 1),p0_]),
 (ag_ [(k2_ 39 2),p0_]),
 (ag_ [(k2_ 39 3),p0_]),
 (ag_ [(k2_ 40 0),p0_]),
 (ag_ [(k2_ 40 1),p0_]),
 (ag_ [(k2_ 40 2),p0_]),
 (ag_ [(k2_ 40 3),p0_]),
 (ag_ [(k2_ 41 0),p0_]),
 (ag_ [(k2_ 41 1),p0_]),
 (ag_ [(k2_ 41 2),p0_]),
 (ag_ [(k2_ 41 3),p0_]),
 (ag_ [(k2_ 42 0),p0_]),
 (ag_ [(k2_ 42 1),p0_]),
 (ag_ [(k2_ 42 2),p0_]),
 (ag_ [(k2_ 42 3),p0_]),
 (ag_ [(k2_ 43 0),p0_]),
 (ag_ [(k2_ 43 1),p0_]),
 (ag_ [(k2_ 43 2),p0_]),
 (ag_ [(k2_ 43 3),p0_]),
 (ag_ [(k2_ 44 0),p0_]),
 (ag_ [(k2_ 44 1),p0_]),
 (ag_ [(k2_ 44 2),p0_]),
 (ag_ [(k2_ 44 3),p0_]),
 (ag_ [(k2_ 45 0),p0_]),
 (ag_ [(k2_ 45 1),p0_]),
 (ag_ [(k2_ 45 2),p0_]),
 (ag_ [(k2_ 45 3),p0_]),
 (ag_ [(k2_ 46 0),p0_]),
 (ag_ [(k2_ 46 1),p0_]),
 (ag_ [(k2_ 46 2),p0_]),
 (ag_ [(k2_ 46 3),p0_]),
 (ag_ [(k2_ 47 0),p0_]),
 (ag_ [(k2_ 47 1),p0_]),
 (ag_ [(k2_ 47 2),p0_]),
 (ag_ [(k2_ 47 3),p0_]),
 (ag_ [(k2_ 48 0),p0_]),
 (ag_ [(k2_ 48 1),p0_]),
 (ag_ [(k2_ 48 2),p0_]),
 (ag_ [(k2_ 48 3),p0_]),
 (ag_ [(k2_ 49 0),p0_]),
 (ag_ [(k2_ 49 1),p0_]),
 (ag_ [(k2_ 49 2),p0_]),
 (ag_ [(k2_ 49 3),p0_]),
 (ag_ [(k2_ 50 0),p0_]),
 (ag_ [(k2_ 50 1),p0_]),
 (ag_ [(k2_ 50 2),p0_]),
 (ag_ [(k2_ 50 3),p0_]),
 (ag_ [(k2_ 51 0),p0_]),
 (ag_ [(k2_ 51 1),p0_]),
 (ag_ [(k2_ 51 2),p0_]),
 (ag_ [(k2_ 51 3),p0_]),
 (ag_ [(k2_ 52 0),p0_]),
 (ag_ [(k2_ 52 1),p0_]),
 (ag_ [(k2_ 52 2),p0_]),
 (ag_ [(k2_ 52 3),p0_]),
 (ag_ [(k2_ 53 0),p0_]),
 (ag_ [(k2_ 53 1),p0_]),
 (ag_ [(k2_ 53 2),p0_]),
 (ag_ [(k2_ 53 3),p0_]),
 (ag_ [(k2_ 54 0),p0_]),
 (ag_ [(k2_ 54 1),p0_]),
 (ag_ [(k2_ 54 2),p0_]),
 (ag_ [(k2_ 54 3),p0_]),
 (ag_ [(k2_ 55 0),p0_]),
 (ag_ [(k2_ 55 1),p0_]),
 (ag_ [(k2_ 55 2),p0_]),
 (ag_ [(k2_ 55 3),p0_]),
 (ag_ [(k2_ 56 0),p0_]),
 (ag_ [(k2_ 56 1),p0_]),
 (ag_ [(k2_ 56 2),p0_]),
 (ag_ [(k2_ 56 3),p0_]),
 (ag_ [(k2_ 57 0),p0_]),
 (ag_ [(k2_ 57 1),p0_]),
 (ag_ [(k2_ 57 2),p0_]),
 (ag_ [(k2_ 57 3),p0_]),
 (ag_ [(k2_ 58 0),p0_]),
 (ag_ [(k2_ 58 1),p0_]),
 (ag_ [(k2_ 58 2),p0_]),
 (ag_ [(k2_ 58 3),p0_]),
 (ag_ [(k2_ 59 0),p0_]),
 (ag_ [(k2_ 59 1),p0_]),
 (ag_ [(k2_ 59 2),p0_]),
 (ag_ [(k2_ 59 3),p0_]),
 (ag_ [(k2_ 60 0),p0_]),
 (ag_ [(k2_ 60 1),p0_]),
 (ag_ [(k2_ 60 2),p0_]),
 (ag_ [(k2_ 60 3),p0_]),
 (ag_ [(k2_ 61 0),p0_]),
 (ag_ [(k2_ 61 1),p0_]),
 (ag_ [(k2_ 61 2),p0_]),
 (ag_ [(k2_ 61 3),p0_]),
 (ag_ [(k2_ 62 0),p0_]),
 (ag_ [(k2_ 62 1),p0_]),
 (ag_ [(k2_ 62 2),p0_]),
 (ag_ [(k2_ 62 3),p0_]),
 (ag_ [(k2_ 63 0),p0_]),
 (ag_ [(k2_ 63 1),p0_]),
 (ag_ [(k2_ 63 2),p0_]),
 (ag_ [(k2_ 63 3),p0_]),
 (ag_ [(k2_ 64 0),p0_]),
 (ag_ [(k2_ 64 1),p0_]),
 (ag_ [(k2_ 64 2),p0_]),
 (ag_ [(k2_ 64 3),p0_]),
 (ag_ [(k2_ 65 0),p0_]),
 (ag_ [(k2_ 65 1),p0_]),
 (ag_ [(k2_ 65 2),p0_]),
 (ag_ [(k2_ 65 3),p0_]),
 (ag_ [(k2_ 66 0),p0_]),
 (ag_ [(k2_ 66 1),p0_]),
 (ag_ [(k2_ 66 2),p0_]),
 (ag_ [(k2_ 66 3),p0_]),
 (ag_ [(k2_ 67 0),p0_]),
 (ag_ [(k2_ 67 1),p0_]),
 (ag_ [(k2_ 67 2),p0_]),
 (ag_ [(k2_ 67 3),p0_]),
 (ag_ [(k2_ 68 0),p0_]),
 (ag_ [(k2_ 68 1),p0_]),
 (ag_ [(k2_ 68 2),p0_]),
 (ag_ [(k2_ 68 3),p0_]),
 (ag_ [(k2_ 69 0),p0_]),
 (ag_ [(k2_ 69 1),p0_]),
 (ag_ [(k2_ 69 2),p0_]),
 (ag_ [(k2_ 69 3),p0_])]
noncomputable def TaL2:List (V × V):=lput [(0,((k2_ 0 0),(pv_ 64 726838724295606890561041290739170761924517813902294265399411862483993355116046897814726048787256900751652441790874862189091270754984310))),(1,((k2_ 0 1),(pv_ 64 726838724295606890549323807888004534353641360687318060281490199180639288113397923326191050713763565560762521606266177933534601628614656))),(2,((k2_ 0 2),(pv_ 64 726838724295606890549323807888004534353641360687318060281490199180639288113397923326191050713763565560762521606266177933534601628614656))),(3,((k2_ 0 3),(pv_ 64 726838724295606890549323807888004534353641360687318060281490199180639288113397923326191050713763565560762521606266177933534601628614656)))] [] TaL0
noncomputable def TaL3:List (V × V):=lput [(4,((k2_ 1 0),(pv_ 64 1453677448591213781108138382351583474195751160831108301600273000660847982945642584777015039699025596627734983774357206440517891379061110))),(5,((k2_ 1 1),(pv_ 64 1453677448591213781098647615776009068707282721374636120562980398361278576226795846652382101427527131121525043212532355867069203257229312))),(6,((k2_ 1 2),(pv_ 64 1453677448591213781098647615776009068707282721374636120562980398361278576226795846652382101427527131121525043212532355867069203257229312))),(7,((k2_ 1 3),(pv_ 64 1453677448591213781098647615776009068707282721374636120562980398361278576226795846652382101427527131121525043212532355867069203257229312)))] [] TaL2
noncomputable def TaL4:List (V × V):=lput [(0,((k2_ 0 0),(pv_ 64 2180516172886820671675080349285383846614480269945734056456430169761125755401513794308612499286544451457045606002792313498792717047718262))),(1,((k2_ 0 1),(pv_ 64 2180516172886820671647971423664013603060924082061954180844470597541917864340193769978573152141290696682287564818798533800603804885843968))),(2,((k2_ 0 2),(pv_ 64 2180516172886820671647971423664013603060924082061954180844470597541917864340193769978573152141290696682287564818798533800603804885843968))),(3,((k2_ 0 3),(pv_ 64 2180516172886820671647971423664013603060924082061954180844470597541917864340193769978573152141290696682287564818798533800603804885843968)))] [] TaL3
noncomputable def Tat0:T8 AO:=cleanT (updAll [(co_ 0 51 ((ag_ [(i6_ 2),(i6_ 2),(i6_ 64),(u3_ 9)]))),
  (co_ 1 73 ((ag_ [(u8_ 0),(i6_ 0),(i6_ 0),(ag_ [(u8_ 0),(u6_ 0),(u1_ 0),(i6_ 0),s0_]),sn_]))),
  (co_ 2 73 ((ag_ [(u8_ 0),(i6_ 3),(i6_ 0),(ag_ [(u8_ 0),(u6_ 0),(u1_ 0),(i6_ 0),s0_]),sn_]))),
  (cr_ 3 9 (([(.str (pkS 3 7041889)),(.str (pkS 4 1885697139)),(.str (pkS 5 431349919602)),(.str (pkS 4 1702065510)),(.str (pkS 4 1818845542)),(.str (pkS 5 448612364899)),(.str (pkS 4 1852141679))]))),
  (4,some (.sit (pkS 1 51) 1)),
  (cr_ 5 225 (([(ag_ [(.str (pkS 5 474214786402)),bf_,bf_,bf_,bf_]),(ag_ [(.str (pkS 4 1684104562)),bt_,bt_,bf_,bf_]),(ag_ [(.str (pkS 5 435744764535)),bt_,bt_,bt_,bt_]),(ag_ [(.str (pkS 6 127996156276579)),bt_,bf_,bf_,bf_]),(ag_ [(.str (pkS 5 500136108641)),bt_,bf_,bf_,bf_]),(ag_ [(.str (pkS 6 120351248048502)),bf_,bf_,bf_,bf_]),(ag_ [(.str (pkS 10 549831251275689824184419)),bf_,bf_,bf_,bf_]),(ag_ [(.str (pkS 5 435728378979)),bf_,bf_,bf_,bf_])]))),
  (co_ 6 225 ((ag_ [(.str (pkS 5 474214786402)),bf_,bf_,bf_,bf_]))),
  (co_ 7 225 ((ag_ [(.str (pkS 4 1684104562)),bt_,bt_,bf_,bf_]))),
  (co_ 8 225 ((ag_ [(.str (pkS 5 435744764535)),bt_,bt_,bt_,bt_]))),
  (co_ 9 225 ((ag_ [(.str (pkS 6 127996156276579)),bt_,bf_,bf_,bf_]))),
  (co_ 10 225 ((ag_ [(.str (pkS 5 500136108641)),bt_,bf_,bf_,bf_]))),
  (co_ 11 225 ((ag_ [(.str (pkS 6 120351248048502)),bf_,bf_,bf_,bf_]))),
  (co_ 12 225 ((ag_ [(.str (pkS 10 549831251275689824184419)),bf_,bf_,bf_,bf_]))),
  (co_ 13 225 ((ag_ [(.str (pkS 5 435728378979)),bf_,bf_,bf_,bf_])))] .nil)
noncomputable def Tat1:T8 AO:=cleanT (updAll [] Tat0)
noncomputable def Tat2:T8 AO:=cleanT (updAll [(co_ 0 51 ((ag_ [(i6_ 2),(i6_ 2),(i6_ 64),(u3_ 9)])))] .nil)
noncomputable def Tat3:T8 AO:=cleanT (updAll [] Tat2)
noncomputable def Tat4:T8 AO:=cleanT (updAll [(co_ 21 73 ((ag_ [(u8_ 0),(i6_ 3),(i6_ 0),(ag_ [(u8_ 0),(u6_ 0),(u1_ 0),(i6_ 0),s0_]),sn_]))),
  (cr_ 22 73 (([(ag_ [(u8_ 0),(i6_ 3),(i6_ 0),(ag_ [(u8_ 0),(u6_ 0),(u1_ 0),(i6_ 0),s0_]),sn_])]))),
  (cr_ 23 73 (([(ag_ [(u8_ 0),(i6_ 3),(i6_ 0),(ag_ [(u8_ 0),(u6_ 0),(u1_ 0),(i6_ 0),s0_]),sn_])]))),
  (co_ 24 73 ((ag_ [(u8_ 0),(i6_ 0),(i6_ 0),(ag_ [(u8_ 0),(u6_ 0),(u1_ 0),(i6_ 0),s0_]),sn_]))),
  (co_ 25 73 ((ag_ [(u8_ 2),(i6_ 1),(i6_ 0),(ag_ [(u8_ 0),(u6_ 0),(u1_ 0),(i6_ 0),s0_]),sn_]))),
  (cr_ 26 9 (([(.str (pkS 3 7041889)),(.str (pkS 4 1885697139)),(.str (pkS 5 431349919602)),(.str (pkS 4 1702065510)),(.str (pkS 4 1818845542)),(.str (pkS 5 448612364899)),(.str (pkS 4 1852141679))]))),
  (27,some (.sit (pkS 1 49) 1))] Tat2)
noncomputable def Tat5:T8 AO:=cleanT (updAll [] Tat4)
noncomputable def Tat6:T8 AO:=cleanT (updAll [(co_ 21 73 ((ag_ [(u8_ 0),(i6_ 3),(i6_ 0),(ag_ [(u8_ 0),(u6_ 0),(u1_ 0),(i6_ 0),s0_]),sn_]))),
  (cr_ 22 73 (([(ag_ [(u8_ 0),(i6_ 3),(i6_ 0),(ag_ [(u8_ 0),(u6_ 0),(u1_ 0),(i6_ 0),s0_]),sn_])]))),
  (cr_ 23 73 (([(ag_ [(u8_ 0),(i6_ 3),(i6_ 0),(ag_ [(u8_ 0),(u6_ 0),(u1_ 0),(i6_ 0),s0_]),sn_])])))] Tat2)
noncomputable def Tat7:T8 AO:=cleanT (updAll [] Tat6)
noncomputable def Tat8:T8 AO:=cleanT (updAll [(cr_ 35 73 (([(ag_ [(u8_ 0),(i6_ 3),(i6_ 0),(ag_ [(u8_ 0),(u6_ 0),(u1_ 0),(i6_ 0),s0_]),sn_]),(ag_ [(u8_ 2),(i6_ 1),(i6_ 0),(ag_ [(u8_ 0),(u6_ 0),(u1_ 0),(i6_ 0),s0_]),sn_])])))] Tat2)
noncomputable def Tat9:T8 AO:=cleanT (updAll [(co_ 36 51 ((ag_ [(i6_ 2),(i6_ 2),(i6_ 64),(u3_ 9)]))),
  (co_ 37 51 ((ag_ [(i6_ 2),(i6_ 2),(i6_ 64),(u3_ 9)]))),
  (co_ 38 53 ((ag_ [(u6_ 0),(u3_ 0),(u3_ 0),(u6_ 0),(u3_ 0),(ag_ [(i6_ 2),(i6_ 2),(i6_ 64),(u3_ 9)])]))),
  (co_ 39 51 ((ag_ [(i6_ 2),(i6_ 2),(i6_ 64),(u3_ 9)]))),
  (40,some (.mp 151 152 [])),
  (41,some (.mp 151 152 TaL0)),
  (co_ 42 149 ((ag_ [(i6_ 70),(.map (some 40)),(.map (some 41)),(sl_ 1026 155 280),(.map none),(i6_ 0),(i6_ 70),bf_]))),
  (co_ 43 51 ((ag_ [(i6_ 2),(i6_ 2),(i6_ 64),(u3_ 9)]))),
  (co_ 44 51 ((ag_ [(i6_ 2),(i6_ 2),(i6_ 64),(u3_ 9)]))),
  (co_ 45 53 ((ag_ [(u6_ 0),(u3_ 0),(u3_ 0),(u6_ 0),(u3_ 0),(ag_ [(i6_ 2),(i6_ 2),(i6_ 64),(u3_ 9)])]))),
  (co_ 46 51 ((ag_ [(i6_ 2),(i6_ 2),(i6_ 64),(u3_ 9)]))),
  (co_ 47 41 ((pv_ 256 0))),
  (co_ 48 41 ((pv_ 256 0))),
  (co_ 49 155 ((ag_ [(k2_ 0 0),p0_]))),
  (cr_ 50 155 (([(ag_ [(k2_ 0 0),p0_])]))),
  (co_ 52 155 ((ag_ [(k2_ 0 1),p0_]))),
  (cr_ 53 155 (([(ag_ [(k2_ 0 1),p0_])]))),
  (co_ 55 155 ((ag_ [(k2_ 0 2),p0_]))),
  (cr_ 56 155 (([(ag_ [(k2_ 0 2),p0_])]))),
  (co_ 58 155 ((ag_ [(k2_ 0 3),p0_]))),
  (cr_ 59 155 (([(ag_ [(k2_ 0 3),p0_])]))),
  (co_ 61 41 ((pv_ 256 0))),
  (co_ 62 41 ((pv_ 256 0))),
  (co_ 63 155 ((ag_ [(k2_ 1 0),p0_]))),
  (cr_ 64 155 (([(ag_ [(k2_ 1 0),p0_])]))),
  (co_ 66 155 ((ag_ [(k2_ 1 1),p0_]))),
  (cr_ 67 155 (([(ag_ [(k2_ 1 1),p0_])]))),
  (co_ 69 155 ((ag_ [(k2_ 1 2),p0_]))),
  (cr_ 70 155 (([(ag_ [(k2_ 1 2),p0_])]))),
  (co_ 72 155 ((ag_ [(k2_ 1 3),p0_]))),
  (cr_ 73 155 (([(ag_ [(k2_ 1 3),p0_])]))),
  (co_ 75 41 ((pv_ 256 33506406212567041))),
  (co_ 76 41 ((pv_ 256 33506406212567041))),
  (co_ 77 155 ((ag_ [(k2_ 2 0),(pv_ 64 33506406212567041)]))),
  (cr_ 78 155 (([(ag_ [(k2_ 2 0),(pv_ 64 33506406212567041)])]))),
  (co_ 80 155 ((ag_ [(k2_ 2 1),p0_]))),
  (cr_ 81 155 (([(ag_ [(k2_ 2 1),p0_])]))),
  (co_ 83 155 ((ag_ [(k2_ 2 2),p0_]))),
  (cr_ 84 155 (([(ag_ [(k2_ 2 2),p0_])]))),
  (co_ 86 155 ((ag_ [(k2_ 2 3),p0_]))),
  (cr_ 87 155 (([(ag_ [(k2_ 2 3),p0_])]))),
  (co_ 89 41 ((pv_ 256 36048469110030593))),
  (co_ 90 41 ((pv_ 256 36048469110030593))),
  (co_ 91 155 ((ag_ [(k2_ 3 0),(pv_ 64 36048469110030593)]))),
  (cr_ 92 155 (([(ag_ [(k2_ 3 0),(pv_ 64 36048469110030593)])]))),
  (co_ 94 155 ((ag_ [(k2_ 3 1),p0_]))),
  (cr_ 95 155 (([(ag_ [(k2_ 3 1),p0_])]))),
  (co_ 97 155 ((ag_ [(k2_ 3 2),p0_]))),
  (cr_ 98 155 (([(ag_ [(k2_ 3 2),p0_])]))),
  (co_ 100 155 ((ag_ [(k2_ 3 3),p0_]))),
  (cr_ 101 155 (([(ag_ [(k2_ 3 3),p0_])]))),
  (co_ 103 41 ((pv_ 256 47692561942315010))),
  (co_ 104 41 ((pv_ 256 47692561942315010))),
  (co_ 105 155 ((ag_ [(k2_ 4 0),(pv_ 64 47692561942315010)]))),
  (cr_ 106 155 (([(ag_ [(k2_ 4 0),(pv_ 64 47692561942315010)])]))),
  (co_ 108 155 ((ag_ [(k2_ 4 1),p0_]))),
  (cr_ 109 155 (([(ag_ [(k2_ 4 1),p0_])]))),
  (co_ 111 155 ((ag_ [(k2_ 4 2),p0_]))),
  (cr_ 112 155 (([(ag_ [(k2_ 4 2),p0_])]))),
  (co_ 114 155 ((ag_ [(k2_ 4 3),p0_]))),
  (cr_ 115 155 (([(ag_ [(k2_ 4 3),p0_])]))),
  (co_ 117 41 ((pv_ 256 26573149508206850))),
  (co_ 118 41 ((pv_ 256 26573149508206850))),
  (co_ 119 155 ((ag_ [(k2_ 5 0),(pv_ 64 26573149508206850)]))),
  (cr_ 120 155 (([(ag_ [(k2_ 5 0),(pv_ 64 26573149508206850)])]))),
  (co_ 122 155 ((ag_ [(k2_ 5 1),p0_]))),
  (cr_ 123 155 (([(ag_ [(k2_ 5 1),p0_])]))),
  (co_ 125 155 ((ag_ [(k2_ 5 2),p0_]))),
  (cr_ 126 155 (([(ag_ [(k2_ 5 2),p0_])]))),
  (co_ 128 155 ((ag_ [(k2_ 5 3),p0_]))),
  (cr_ 129 155 (([(ag_ [(k2_ 5 3),p0_])]))),
  (co_ 131 41 ((pv_ 256 0))),
  (co_ 132 41 ((pv_ 256 0))),
  (co_ 133 155 ((ag_ [(k2_ 6 0),p0_]))),
  (cr_ 134 155 (([(ag_ [(k2_ 6 0),p0_])]))),
  (co_ 136 155 ((ag_ [(k2_ 6 1),p0_]))),
  (cr_ 137 155 (([(ag_ [(k2_ 6 1),p0_])]))),
  (co_ 139 155 ((ag_ [(k2_ 6 2),p0_]))),
  (cr_ 140 155 (([(ag_ [(k2_ 6 2),p0_])]))),
  (co_ 142 155 ((ag_ [(k2_ 6 3),p0_]))),
  (cr_ 143 155 (([(ag_ [(k2_ 6 3),p0_])]))),
  (co_ 145 41 ((pv_ 256 0))),
  (co_ 146 41 ((pv_ 256 0))),
  (co_ 147 155 ((ag_ [(k2_ 7 0),p0_]))),
  (cr_ 148 155 (([(ag_ [(k2_ 7 0),p0_])]))),
  (co_ 150 155 ((ag_ [(k2_ 7 1),p0_]))),
  (cr_ 151 155 (([(ag_ [(k2_ 7 1),p0_])]))),
  (co_ 153 155 ((ag_ [(k2_ 7 2),p0_]))),
  (cr_ 154 155 (([(ag_ [(k2_ 7 2),p0_])]))),
  (co_ 156 155 ((ag_ [(k2_ 7 3),p0_]))),
  (cr_ 157 155 (([(ag_ [(k2_ 7 3),p0_])]))),
  (co_ 159 41 ((pv_ 256 0))),
  (co_ 160 41 ((pv_ 256 0))),
  (co_ 161 155 ((ag_ [(k2_ 8 0),p0_]))),
  (cr_ 162 155 (([(ag_ [(k2_ 8 0),p0_])]))),
  (co_ 164 155 ((ag_ [(k2_ 8 1),p0_]))),
  (cr_ 165 155 (([(ag_ [(k2_ 8 1),p0_])]))),
  (co_ 167 155 ((ag_ [(k2_ 8 2),p0_]))),
  (cr_ 168 155 (([(ag_ [(k2_ 8 2),p0_])]))),
  (co_ 170 155 ((ag_ [(k2_ 8 3),p0_]))),
  (cr_ 171 155 (([(ag_ [(k2_ 8 3),p0_])]))),
  (co_ 173 41 ((pv_ 256 0))),
  (co_ 174 41 ((pv_ 256 0))),
  (co_ 175 155 ((ag_ [(k2_ 9 0),p0_]))),
  (cr_ 176 155 (([(ag_ [(k2_ 9 0),p0_])]))),
  (co_ 178 155 ((ag_ [(k2_ 9 1),p0_]))),
  (cr_ 179 155 (([(ag_ [(k2_ 9 1),p0_])]))),
  (co_ 181 155 ((ag_ [(k2_ 9 2),p0_]))),
  (cr_ 182 155 (([(ag_ [(k2_ 9 2),p0_])]))),
  (co_ 184 155 ((ag_ [(k2_ 9 3),p0_]))),
  (cr_ 185 155 (([(ag_ [(k2_ 9 3),p0_])]))),
  (co_ 187 41 ((pv_ 256 0))),
  (co_ 188 41 ((pv_ 256 0))),
  (co_ 189 155 ((ag_ [(k2_ 10 0),p0_]))),
  (cr_ 190 155 (([(ag_ [(k2_ 10 0),p0_])]))),
  (co_ 192 155 ((ag_ [(k2_ 10 1),p0_]))),
  (cr_ 193 155 (([(ag_ [(k2_ 10 1),p0_])]))),
  (co_ 195 155 ((ag_ [(k2_ 10 2),p0_]))),
  (cr_ 196 155 (([(ag_ [(k2_ 10 2),p0_])]))),
  (co_ 198 155 ((ag_ [(k2_ 10 3),p0_]))),
  (cr_ 199 155 (([(ag_ [(k2_ 10 3),p0_])]))),
  (co_ 201 41 ((pv_ 256 0))),
  (co_ 202 41 ((pv_ 256 0))),
  (co_ 203 155 ((ag_ [(k2_ 11 0),p0_]))),
  (cr_ 204 155 (([(ag_ [(k2_ 11 0),p0_])]))),
  (co_ 206 155 ((ag_ [(k2_ 11 1),p0_]))),
  (cr_ 207 155 (([(ag_ [(k2_ 11 1),p0_])]))),
  (co_ 209 155 ((ag_ [(k2_ 11 2),p0_]))),
  (cr_ 210 155 (([(ag_ [(k2_ 11 2),p0_])]))),
  (co_ 212 155 ((ag_ [(k2_ 11 3),p0_]))),
  (cr_ 213 155 (([(ag_ [(k2_ 11 3),p0_])]))),
  (co_ 215 41 ((pv_ 256 0))),
  (co_ 216 41 ((pv_ 256 0))),
  (co_ 217 155 ((ag_ [(k2_ 12 0),p0_]))),
  (cr_ 218 155 (([(ag_ [(k2_ 12 0),p0_])]))),
  (co_ 220 155 ((ag_ [(k2_ 12 1),p0_]))),
  (cr_ 221 155 (([(ag_ [(k2_ 12 1),p0_])]))),
  (co_ 223 155 ((ag_ [(k2_ 12 2),p0_]))),
  (cr_ 224 155 (([(ag_ [(k2_ 12 2),p0_])]))),
  (co_ 226 155 ((ag_ [(k2_ 12 3),p0_]))),
  (cr_ 227 155 (([(ag_ [(k2_ 12 3),p0_])]))),
  (co_ 229 41 ((pv_ 256 0))),
  (co_ 230 41 ((pv_ 256 0))),
  (co_ 231 155 ((ag_ [(k2_ 13 0),p0_]))),
  (cr_ 232 155 (([(ag_ [(k2_ 13 0),p0_])]))),
  (co_ 234 155 ((ag_ [(k2_ 13 1),p0_]))),
  (cr_ 235 155 (([(ag_ [(k2_ 13 1),p0_])]))),
  (co_ 237 155 ((ag_ [(k2_ 13 2),p0_]))),
  (cr_ 238 155 (([(ag_ [(k2_ 13 2),p0_])]))),
  (co_ 240 155 ((ag_ [(k2_ 13 3),p0_]))),
  (cr_ 241 155 (([(ag_ [(k2_ 13 3),p0_])]))),
  (co_ 243 41 ((pv_ 256 0))),
  (co_ 244 41 ((pv_ 256 0))),
  (co_ 245 155 ((ag_ [(k2_ 14 0),p0_]))),
  (cr_ 246 155 (([(ag_ [(k2_ 14 0),p0_])]))),
  (co_ 248 155 ((ag_ [(k2_ 14 1),p0_]))),
  (cr_ 249 155 (([(ag_ [(k2_ 14 1),p0_])]))),
  (co_ 251 155 ((ag_ [(k2_ 14 2),p0_]))),
  (cr_ 252 155 (([(ag_ [(k2_ 14 2),p0_])]))),
  (co_ 254 155 ((ag_ [(k2_ 14 3),p0_]))),
  (cr_ 255 155 (([(ag_ [(k2_ 14 3),p0_])]))),
  (co_ 257 41 ((pv_ 256 0))),
  (co_ 258 41 ((pv_ 256 0))),
  (co_ 259 155 ((ag_ [(k2_ 15 0),p0_]))),
  (cr_ 260 155 (([(ag_ [(k2_ 15 0),p0_])]))),
  (co_ 262 155 ((ag_ [(k2_ 15 1),p0_]))),
  (cr_ 263 155 (([(ag_ [(k2_ 15 1),p0_])]))),
  (co_ 265 155 ((ag_ [(k2_ 15 2),p0_]))),
  (cr_ 266 155 (([(ag_ [(k2_ 15 2),p0_])]))),
  (co_ 268 155 ((ag_ [(k2_ 15 3),p0_]))),
  (cr_ 269 155 (([(ag_ [(k2_ 15 3),p0_])]))),
  (co_ 271 41 ((pv_ 256 0))),
  (co_ 272 41 ((pv_ 256 0))),
  (co_ 273 155 ((ag_ [(k2_ 16 0),p0_]))),
  (cr_ 274 155 (([(ag_ [(k2_ 16 0),p0_])]))),
  (co_ 276 155 ((ag_ [(k2_ 16 1),p0_]))),
  (cr_ 277 155 (([(ag_ [(k2_ 16 1),p0_])]))),
  (co_ 279 155 ((ag_ [(k2_ 16 2),p0_]))),
  (cr_ 280 155 (([(ag_ [(k2_ 16 2),p0_])]))),
  (co_ 282 155 ((ag_ [(k2_ 16 3),p0_]))),
  (cr_ 283 155 (([(ag_ [(k2_ 16 3),p0_])]))),
  (co_ 285 41 ((pv_ 256 0))),
  (co_ 286 41 ((pv_ 256 0))),
  (co_ 287 155 ((ag_ [(k2_ 17 0),p0_]))),
  (cr_ 288 155 (([(ag_ [(k2_ 17 0),p0_])]))),
  (co_ 290 155 ((ag_ [(k2_ 17 1),p0_]))),
  (cr_ 291 155 (([(ag_ [(k2_ 17 1),p0_])]))),
  (co_ 293 155 ((ag_ [(k2_ 17 2),p0_]))),
  (cr_ 294 155 (([(ag_ [(k2_ 17 2),p0_])]))),
  (co_ 296 155 ((ag_ [(k2_ 17 3),p0_]))),
  (cr_ 297 155 (([(ag_ [(k2_ 17 3),p0_])]))),
  (co_ 299 41 ((pv_ 256 0))),
  (co_ 300 41 ((pv_ 256 0))),
  (co_ 301 155 ((ag_ [(k2_ 18 0),p0_]))),
  (cr_ 302 155 (([(ag_ [(k2_ 18 0),p0_])]))),
  (co_ 304 155 ((ag_ [(k2_ 18 1),p0_]))),
  (cr_ 305 155 (([(ag_ [(k2_ 18 1),p0_])]))),
  (co_ 307 155 ((ag_ [(k2_ 18 2),p0_]))),
  (cr_ 308 155 (([(ag_ [(k2_ 18 2),p0_])]))),
  (co_ 310 155 ((ag_ [(k2_ 18 3),p0_]))),
  (cr_ 311 155 (([(ag_ [(k2_ 18 3),p0_])]))),
  (co_ 313 41 ((pv_ 256 0))),
  (co_ 314 41 ((pv_ 256 0))),
  (co_ 315 155 ((ag_ [(k2_ 19 0),p0_]))),
  (cr_ 316 155 (([(ag_ [(k2_ 19 0),p0_])]))),
  (co_ 318 155 ((ag_ [(k2_ 19 1),p0_]))),
  (cr_ 319 155 (([(ag_ [(k2_ 19 1),p0_])]))),
  (co_ 321 155 ((ag_ [(k2_ 19 2),p0_]))),
  (cr_ 322 155 (([(ag_ [(k2_ 19 2),p0_])]))),
  (co_ 324 155 ((ag_ [(k2_ 19 3),p0_]))),
  (cr_ 325 155 (([(ag_ [(k2_ 19 3),p0_])]))),
  (co_ 327 41 ((pv_ 256 0))),
  (co_ 328 41 ((pv_ 256 0))),
  (co_ 329 155 ((ag_ [(k2_ 20 0),p0_]))),
  (cr_ 330 155 (([(ag_ [(k2_ 20 0),p0_])]))),
  (co_ 332 155 ((ag_ [(k2_ 20 1),p0_]))),
  (cr_ 333 155 (([(ag_ [(k2_ 20 1),p0_])]))),
  (co_ 335 155 ((ag_ [(k2_ 20 2),p0_]))),
  (cr_ 336 155 (([(ag_ [(k2_ 20 2),p0_])]))),
  (co_ 338 155 ((ag_ [(k2_ 20 3),p0_]))),
  (cr_ 339 155 (([(ag_ [(k2_ 20 3),p0_])]))),
  (co_ 341 41 ((pv_ 256 0))),
  (co_ 342 41 ((pv_ 256 0))),
  (co_ 343 155 ((ag_ [(k2_ 21 0),p0_]))),
  (cr_ 344 155 (([(ag_ [(k2_ 21 0),p0_])]))),
  (co_ 346 155 ((ag_ [(k2_ 21 1),p0_]))),
  (cr_ 347 155 (([(ag_ [(k2_ 21 1),p0_])]))),
  (co_ 349 155 ((ag_ [(k2_ 21 2),p0_]))),
  (cr_ 350 155 (([(ag_ [(k2_ 21 2),p0_])]))),
  (co_ 352 155 ((ag_ [(k2_ 21 3),p0_]))),
  (cr_ 353 155 (([(ag_ [(k2_ 21 3),p0_])]))),
  (co_ 355 41 ((pv_ 256 0))),
  (co_ 356 41 ((pv_ 256 0))),
  (co_ 357 155 ((ag_ [(k2_ 22 0),p0_]))),
  (cr_ 358 155 (([(ag_ [(k2_ 22 0),p0_])]))),
  (co_ 360 155 ((ag_ [(k2_ 22 1),p0_]))),
  (cr_ 361 155 (([(ag_ [(k2_ 22 1),p0_])]))),
  (co_ 363 155 ((ag_ [(k2_ 22 2),p0_]))),
  (cr_ 364 155 (([(ag_ [(k2_ 22 2),p0_])]))),
  (co_ 366 155 ((ag_ [(k2_ 22 3),p0_]))),
  (cr_ 367 155 (([(ag_ [(k2_ 22 3),p0_])]))),
  (co_ 369 41 ((pv_ 256 0))),
  (co_ 370 41 ((pv_ 256 0))),
  (co_ 371 155 ((ag_ [(k2_ 23 0),p0_]))),
  (cr_ 372 155 (([(ag_ [(k2_ 23 0),p0_])]))),
  (co_ 374 155 ((ag_ [(k2_ 23 1),p0_]))),
  (cr_ 375 155 (([(ag_ [(k2_ 23 1),p0_])]))),
  (co_ 377 155 ((ag_ [(k2_ 23 2),p0_]))),
  (cr_ 378 155 (([(ag_ [(k2_ 23 2),p0_])]))),
  (co_ 380 155 ((ag_ [(k2_ 23 3),p0_]))),
  (cr_ 381 155 (([(ag_ [(k2_ 23 3),p0_])]))),
  (co_ 383 41 ((pv_ 256 0))),
  (co_ 384 41 ((pv_ 256 0))),
  (co_ 385 155 ((ag_ [(k2_ 24 0),p0_]))),
  (cr_ 386 155 (([(ag_ [(k2_ 24 0),p0_])]))),
  (co_ 388 155 ((ag_ [(k2_ 24 1),p0_]))),
  (cr_ 389 155 (([(ag_ [(k2_ 24 1),p0_])]))),
  (co_ 391 155 ((ag_ [(k2_ 24 2),p0_]))),
  (cr_ 392 155 (([(ag_ [(k2_ 24 2),p0_])]))),
  (co_ 394 155 ((ag_ [(k2_ 24 3),p0_]))),
  (cr_ 395 155 (([(ag_ [(k2_ 24 3),p0_])]))),
  (co_ 397 41 ((pv_ 256 0))),
  (co_ 398 41 ((pv_ 256 0))),
  (co_ 399 155 ((ag_ [(k2_ 25 0),p0_]))),
  (cr_ 400 155 (([(ag_ [(k2_ 25 0),p0_])]))),
  (co_ 402 155 ((ag_ [(k2_ 25 1),p0_]))),
  (cr_ 403 155 (([(ag_ [(k2_ 25 1),p0_])]))),
  (co_ 405 155 ((ag_ [(k2_ 25 2),p0_]))),
  (cr_ 406 155 (([(ag_ [(k2_ 25 2),p0_])]))),
  (co_ 408 155 ((ag_ [(k2_ 25 3),p0_]))),
  (cr_ 409 155 (([(ag_ [(k2_ 25 3),p0_])]))),
  (co_ 411 41 ((pv_ 256 0))),
  (co_ 412 41 ((pv_ 256 0))),
  (co_ 413 155 ((ag_ [(k2_ 26 0),p0_]))),
  (cr_ 414 155 (([(ag_ [(k2_ 26 0),p0_])]))),
  (co_ 416 155 ((ag_ [(k2_ 26 1),p0_]))),
  (cr_ 417 155 (([(ag_ [(k2_ 26 1),p0_])]))),
  (co_ 419 155 ((ag_ [(k2_ 26 2),p0_]))),
  (cr_ 420 155 (([(ag_ [(k2_ 26 2),p0_])]))),
  (co_ 422 155 ((ag_ [(k2_ 26 3),p0_]))),
  (cr_ 423 155 (([(ag_ [(k2_ 26 3),p0_])]))),
  (co_ 425 41 ((pv_ 256 0))),
  (co_ 426 41 ((pv_ 256 0))),
  (co_ 427 155 ((ag_ [(k2_ 27 0),p0_]))),
  (cr_ 428 155 (([(ag_ [(k2_ 27 0),p0_])]))),
  (co_ 430 155 ((ag_ [(k2_ 27 1),p0_]))),
  (cr_ 431 155 (([(ag_ [(k2_ 27 1),p0_])]))),
  (co_ 433 155 ((ag_ [(k2_ 27 2),p0_]))),
  (cr_ 434 155 (([(ag_ [(k2_ 27 2),p0_])]))),
  (co_ 436 155 ((ag_ [(k2_ 27 3),p0_]))),
  (cr_ 437 155 (([(ag_ [(k2_ 27 3),p0_])]))),
  (co_ 439 41 ((pv_ 256 0))),
  (co_ 440 41 ((pv_ 256 0))),
  (co_ 441 155 ((ag_ [(k2_ 28 0),p0_]))),
  (cr_ 442 155 (([(ag_ [(k2_ 28 0),p0_])]))),
  (co_ 444 155 ((ag_ [(k2_ 28 1),p0_]))),
  (cr_ 445 155 (([(ag_ [(k2_ 28 1),p0_])]))),
  (co_ 447 155 ((ag_ [(k2_ 28 2),p0_]))),
  (cr_ 448 155 (([(ag_ [(k2_ 28 2),p0_])]))),
  (co_ 450 155 ((ag_ [(k2_ 28 3),p0_]))),
  (cr_ 451 155 (([(ag_ [(k2_ 28 3),p0_])]))),
  (co_ 453 41 ((pv_ 256 0))),
  (co_ 454 41 ((pv_ 256 0))),
  (co_ 455 155 ((ag_ [(k2_ 29 0),p0_]))),
  (cr_ 456 155 (([(ag_ [(k2_ 29 0),p0_])]))),
  (co_ 458 155 ((ag_ [(k2_ 29 1),p0_]))),
  (cr_ 459 155 (([(ag_ [(k2_ 29 1),p0_])]))),
  (co_ 461 155 ((ag_ [(k2_ 29 2),p0_]))),
  (cr_ 462 155 (([(ag_ [(k2_ 29 2),p0_])]))),
  (co_ 464 155 ((ag_ [(k2_ 29 3),p0_]))),
  (cr_ 465 155 (([(ag_ [(k2_ 29 3),p0_])]))),
  (co_ 467 41 ((pv_ 256 0))),
  (co_ 468 41 ((pv_ 256 0))),
  (co_ 469 155 ((ag_ [(k2_ 30 0),p0_]))),
  (cr_ 470 155 (([(ag_ [(k2_ 30 0),p0_])]))),
  (co_ 472 155 ((ag_ [(k2_ 30 1),p0_]))),
  (cr_ 473 155 (([(ag_ [(k2_ 30 1),p0_])]))),
  (co_ 475 155 ((ag_ [(k2_ 30 2),p0_]))),
  (cr_ 476 155 (([(ag_ [(k2_ 30 2),p0_])]))),
  (co_ 478 155 ((ag_ [(k2_ 30 3),p0_]))),
  (cr_ 479 155 (([(ag_ [(k2_ 30 3),p0_])]))),
  (co_ 481 41 ((pv_ 256 0))),
  (co_ 482 41 ((pv_ 256 0))),
  (co_ 483 155 ((ag_ [(k2_ 31 0),p0_]))),
  (cr_ 484 155 (([(ag_ [(k2_ 31 0),p0_])]))),
  (co_ 486 155 ((ag_ [(k2_ 31 1),p0_]))),
  (cr_ 487 155 (([(ag_ [(k2_ 31 1),p0_])]))),
  (co_ 489 155 ((ag_ [(k2_ 31 2),p0_]))),
  (cr_ 490 155 (([(ag_ [(k2_ 31 2),p0_])]))),
  (co_ 492 155 ((ag_ [(k2_ 31 3),p0_]))),
  (cr_ 493 155 (([(ag_ [(k2_ 31 3),p0_])]))),
  (co_ 495 41 ((pv_ 256 0))),
  (co_ 496 41 ((pv_ 256 0))),
  (co_ 497 155 ((ag_ [(k2_ 32 0),p0_]))),
  (cr_ 498 155 (([(ag_ [(k2_ 32 0),p0_])]))),
  (co_ 500 155 ((ag_ [(k2_ 32 1),p0_]))),
  (cr_ 501 155 (([(ag_ [(k2_ 32 1),p0_])]))),
  (co_ 503 155 ((ag_ [(k2_ 32 2),p0_]))),
  (cr_ 504 155 (([(ag_ [(k2_ 32 2),p0_])]))),
  (co_ 506 155 ((ag_ [(k2_ 32 3),p0_]))),
  (cr_ 507 155 (([(ag_ [(k2_ 32 3),p0_])]))),
  (co_ 509 41 ((pv_ 256 0))),
  (co_ 510 41 ((pv_ 256 0))),
  (co_ 511 155 ((ag_ [(k2_ 33 0),p0_]))),
  (cr_ 512 155 (([(ag_ [(k2_ 33 0),p0_])]))),
  (co_ 514 155 ((ag_ [(k2_ 33 1),p0_]))),
  (cr_ 515 155 (([(ag_ [(k2_ 33 1),p0_])]))),
  (co_ 517 155 ((ag_ [(k2_ 33 2),p0_]))),
  (cr_ 518 155 (([(ag_ [(k2_ 33 2),p0_])]))),
  (co_ 520 155 ((ag_ [(k2_ 33 3),p0_]))),
  (cr_ 521 155 (([(ag_ [(k2_ 33 3),p0_])]))),
  (co_ 523 41 ((pv_ 256 0))),
  (co_ 524 41 ((pv_ 256 0))),
  (co_ 525 155 ((ag_ [(k2_ 34 0),p0_]))),
  (cr_ 526 155 (([(ag_ [(k2_ 34 0),p0_])]))),
  (co_ 528 155 ((ag_ [(k2_ 34 1),p0_]))),
  (cr_ 529 155 (([(ag_ [(k2_ 34 1),p0_])]))),
  (co_ 531 155 ((ag_ [(k2_ 34 2),p0_]))),
  (cr_ 532 155 (([(ag_ [(k2_ 34 2),p0_])]))),
  (co_ 534 155 ((ag_ [(k2_ 34 3),p0_]))),
  (cr_ 535 155 (([(ag_ [(k2_ 34 3),p0_])]))),
  (co_ 537 41 ((pv_ 256 0))),
  (co_ 538 41 ((pv_ 256 0))),
  (co_ 539 155 ((ag_ [(k2_ 35 0),p0_]))),
  (cr_ 540 155 (([(ag_ [(k2_ 35 0),p0_])]))),
  (co_ 542 155 ((ag_ [(k2_ 35 1),p0_]))),
  (cr_ 543 155 (([(ag_ [(k2_ 35 1),p0_])]))),
  (co_ 545 155 ((ag_ [(k2_ 35 2),p0_]))),
  (cr_ 546 155 (([(ag_ [(k2_ 35 2),p0_])]))),
  (co_ 548 155 ((ag_ [(k2_ 35 3),p0_]))),
  (cr_ 549 155 (([(ag_ [(k2_ 35 3),p0_])]))),
  (co_ 551 41 ((pv_ 256 0))),
  (co_ 552 41 ((pv_ 256 0))),
  (co_ 553 155 ((ag_ [(k2_ 36 0),p0_]))),
  (cr_ 554 155 (([(ag_ [(k2_ 36 0),p0_])]))),
  (co_ 556 155 ((ag_ [(k2_ 36 1),p0_]))),
  (cr_ 557 155 (([(ag_ [(k2_ 36 1),p0_])]))),
  (co_ 559 155 ((ag_ [(k2_ 36 2),p0_]))),
  (cr_ 560 155 (([(ag_ [(k2_ 36 2),p0_])]))),
  (co_ 562 155 ((ag_ [(k2_ 36 3),p0_]))),
  (cr_ 563 155 (([(ag_ [(k2_ 36 3),p0_])]))),
  (co_ 565 41 ((pv_ 256 0))),
  (co_ 566 41 ((pv_ 256 0))),
  (co_ 567 155 ((ag_ [(k2_ 37 0),p0_]))),
  (cr_ 568 155 (([(ag_ [(k2_ 37 0),p0_])]))),
  (co_ 570 155 ((ag_ [(k2_ 37 1),p0_]))),
  (cr_ 571 155 (([(ag_ [(k2_ 37 1),p0_])]))),
  (co_ 573 155 ((ag_ [(k2_ 37 2),p0_]))),
  (cr_ 574 155 (([(ag_ [(k2_ 37 2),p0_])]))),
  (co_ 576 155 ((ag_ [(k2_ 37 3),p0_]))),
  (cr_ 577 155 (([(ag_ [(k2_ 37 3),p0_])]))),
  (co_ 579 41 ((pv_ 256 0))),
  (co_ 580 41 ((pv_ 256 0))),
  (co_ 581 155 ((ag_ [(k2_ 38 0),p0_]))),
  (cr_ 582 155 (([(ag_ [(k2_ 38 0),p0_])]))),
  (co_ 584 155 ((ag_ [(k2_ 38 1),p0_]))),
  (cr_ 585 155 (([(ag_ [(k2_ 38 1),p0_])]))),
  (co_ 587 155 ((ag_ [(k2_ 38 2),p0_]))),
  (cr_ 588 155 (([(ag_ [(k2_ 38 2),p0_])]))),
  (co_ 590 155 ((ag_ [(k2_ 38 3),p0_]))),
  (cr_ 591 155 (([(ag_ [(k2_ 38 3),p0_])]))),
  (co_ 593 41 ((pv_ 256 0))),
  (co_ 594 41 ((pv_ 256 0))),
  (co_ 595 155 ((ag_ [(k2_ 39 0),p0_]))),
  (cr_ 596 155 (([(ag_ [(k2_ 39 0),p0_])]))),
  (co_ 598 155 ((ag_ [(k2_ 39 1),p0_]))),
  (cr_ 599 155 (([(ag_ [(k2_ 39 1),p0_])]))),
  (co_ 601 155 ((ag_ [(k2_ 39 2),p0_]))),
  (cr_ 602 155 (([(ag_ [(k2_ 39 2),p0_])]))),
  (co_ 604 155 ((ag_ [(k2_ 39 3),p0_]))),
  (cr_ 605 155 (([(ag_ [(k2_ 39 3),p0_])]))),
  (co_ 607 41 ((pv_ 256 0))),
  (co_ 608 41 ((pv_ 256 0))),
  (co_ 609 155 ((ag_ [(k2_ 40 0),p0_]))),
  (cr_ 610 155 (([(ag_ [(k2_ 40 0),p0_])]))),
  (co_ 612 155 ((ag_ [(k2_ 40 1),p0_]))),
  (cr_ 613 155 (([(ag_ [(k2_ 40 1),p0_])]))),
  (co_ 615 155 ((ag_ [(k2_ 40 2),p0_]))),
  (cr_ 616 155 (([(ag_ [(k2_ 40 2),p0_])]))),
  (co_ 618 155 ((ag_ [(k2_ 40 3),p0_]))),
  (cr_ 619 155 (([(ag_ [(k2_ 40 3),p0_])]))),
  (co_ 621 41 ((pv_ 256 0))),
  (co_ 622 41 ((pv_ 256 0))),
  (co_ 623 155 ((ag_ [(k2_ 41 0),p0_]))),
  (cr_ 624 155 (([(ag_ [(k2_ 41 0),p0_])]))),
  (co_ 626 155 ((ag_ [(k2_ 41 1),p0_]))),
  (cr_ 627 155 (([(ag_ [(k2_ 41 1),p0_])]))),
  (co_ 629 155 ((ag_ [(k2_ 41 2),p0_]))),
  (cr_ 630 155 (([(ag_ [(k2_ 41 2),p0_])]))),
  (co_ 632 155 ((ag_ [(k2_ 41 3),p0_]))),
  (cr_ 633 155 (([(ag_ [(k2_ 41 3),p0_])]))),
  (co_ 635 41 ((pv_ 256 0))),
  (co_ 636 41 ((pv_ 256 0))),
  (co_ 637 155 ((ag_ [(k2_ 42 0),p0_]))),
  (cr_ 638 155 (([(ag_ [(k2_ 42 0),p0_])]))),
  (co_ 640 155 ((ag_ [(k2_ 42 1),p0_]))),
  (cr_ 641 155 (([(ag_ [(k2_ 42 1),p0_])]))),
  (co_ 643 155 ((ag_ [(k2_ 42 2),p0_]))),
  (cr_ 644 155 (([(ag_ [(k2_ 42 2),p0_])]))),
  (co_ 646 155 ((ag_ [(k2_ 42 3),p0_]))),
  (cr_ 647 155 (([(ag_ [(k2_ 42 3),p0_])]))),
  (co_ 649 41 ((pv_ 256 0))),
  (co_ 650 41 ((pv_ 256 0))),
  (co_ 651 155 ((ag_ [(k2_ 43 0),p0_]))),
  (cr_ 652 155 (([(ag_ [(k2_ 43 0),p0_])]))),
  (co_ 654 155 ((ag_ [(k2_ 43 1),p0_]))),
  (cr_ 655 155 (([(ag_ [(k2_ 43 1),p0_])]))),
  (co_ 657 155 ((ag_ [(k2_ 43 2),p0_]))),
  (cr_ 658 155 (([(ag_ [(k2_ 43 2),p0_])]))),
  (co_ 660 155 ((ag_ [(k2_ 43 3),p0_]))),
  (cr_ 661 155 (([(ag_ [(k2_ 43 3),p0_])]))),
  (co_ 663 41 ((pv_ 256 0))),
  (co_ 664 41 ((pv_ 256 0))),
  (co_ 665 155 ((ag_ [(k2_ 44 0),p0_]))),
  (cr_ 666 155 (([(ag_ [(k2_ 44 0),p0_])]))),
  (co_ 668 155 ((ag_ [(k2_ 44 1),p0_]))),
  (cr_ 669 155 (([(ag_ [(k2_ 44 1),p0_])]))),
  (co_ 671 155 ((ag_ [(k2_ 44 2),p0_]))),
  (cr_ 672 155 (([(ag_ [(k2_ 44 2),p0_])]))),
  (co_ 674 155 ((ag_ [(k2_ 44 3),p0_]))),
  (cr_ 675 155 (([(ag_ [(k2_ 44 3),p0_])]))),
  (co_ 677 41 ((pv_ 256 0))),
  (co_ 678 41 ((pv_ 256 0))),
  (co_ 679 155 ((ag_ [(k2_ 45 0),p0_]))),
  (cr_ 680 155 (([(ag_ [(k2_ 45 0),p0_])]))),
  (co_ 682 155 ((ag_ [(k2_ 45 1),p0_]))),
  (cr_ 683 155 (([(ag_ [(k2_ 45 1),p0_])]))),
  (co_ 685 155 ((ag_ [(k2_ 45 2),p0_]))),
  (cr_ 686 155 (([(ag_ [(k2_ 45 2),p0_])]))),
  (co_ 688 155 ((ag_ [(k2_ 45 3),p0_]))),
  (cr_ 689 155 (([(ag_ [(k2_ 45 3),p0_])]))),
  (co_ 691 41 ((pv_ 256 0))),
  (co_ 692 41 ((pv_ 256 0))),
  (co_ 693 155 ((ag_ [(k2_ 46 0),p0_]))),
  (cr_ 694 155 (([(ag_ [(k2_ 46 0),p0_])]))),
  (co_ 696 155 ((ag_ [(k2_ 46 1),p0_]))),
  (cr_ 697 155 (([(ag_ [(k2_ 46 1),p0_])]))),
  (co_ 699 155 ((ag_ [(k2_ 46 2),p0_]))),
  (cr_ 700 155 (([(ag_ [(k2_ 46 2),p0_])]))),
  (co_ 702 155 ((ag_ [(k2_ 46 3),p0_]))),
  (cr_ 703 155 (([(ag_ [(k2_ 46 3),p0_])]))),
  (co_ 705 41 ((pv_ 256 0))),
  (co_ 706 41 ((pv_ 256 0))),
  (co_ 707 155 ((ag_ [(k2_ 47 0),p0_]))),
  (cr_ 708 155 (([(ag_ [(k2_ 47 0),p0_])]))),
  (co_ 710 155 ((ag_ [(k2_ 47 1),p0_]))),
  (cr_ 711 155 (([(ag_ [(k2_ 47 1),p0_])]))),
  (co_ 713 155 ((ag_ [(k2_ 47 2),p0_]))),
  (cr_ 714 155 (([(ag_ [(k2_ 47 2),p0_])]))),
  (co_ 716 155 ((ag_ [(k2_ 47 3),p0_]))),
  (cr_ 717 155 (([(ag_ [(k2_ 47 3),p0_])]))),
  (co_ 719 41 ((pv_ 256 0))),
  (co_ 720 41 ((pv_ 256 0))),
  (co_ 721 155 ((ag_ [(k2_ 48 0),p0_]))),
  (cr_ 722 155 (([(ag_ [(k2_ 48 0),p0_])]))),
  (co_ 724 155 ((ag_ [(k2_ 48 1),p0_]))),
  (cr_ 725 155 (([(ag_ [(k2_ 48 1),p0_])]))),
  (co_ 727 155 ((ag_ [(k2_ 48 2),p0_]))),
  (cr_ 728 155 (([(ag_ [(k2_ 48 2),p0_])]))),
  (co_ 730 155 ((ag_ [(k2_ 48 3),p0_]))),
  (cr_ 731 155 (([(ag_ [(k2_ 48 3),p0_])]))),
  (co_ 733 41 ((pv_ 256 0))),
  (co_ 734 41 ((pv_ 256 0))),
  (co_ 735 155 ((ag_ [(k2_ 49 0),p0_]))),
  (cr_ 736 155 (([(ag_ [(k2_ 49 0),p0_])]))),
  (co_ 738 155 ((ag_ [(k2_ 49 1),p0_]))),
  (cr_ 739 155 (([(ag_ [(k2_ 49 1),p0_])]))),
  (co_ 741 155 ((ag_ [(k2_ 49 2),p0_]))),
  (cr_ 742 155 (([(ag_ [(k2_ 49 2),p0_])]))),
  (co_ 744 155 ((ag_ [(k2_ 49 3),p0_]))),
  (cr_ 745 155 (([(ag_ [(k2_ 49 3),p0_])]))),
  (co_ 747 41 ((pv_ 256 0))),
  (co_ 748 41 ((pv_ 256 0))),
  (co_ 749 155 ((ag_ [(k2_ 50 0),p0_]))),
  (cr_ 750 155 (([(ag_ [(k2_ 50 0),p0_])]))),
  (co_ 752 155 ((ag_ [(k2_ 50 1),p0_]))),
  (cr_ 753 155 (([(ag_ [(k2_ 50 1),p0_])]))),
  (co_ 755 155 ((ag_ [(k2_ 50 2),p0_]))),
  (cr_ 756 155 (([(ag_ [(k2_ 50 2),p0_])]))),
  (co_ 758 155 ((ag_ [(k2_ 50 3),p0_]))),
  (cr_ 759 155 (([(ag_ [(k2_ 50 3),p0_])]))),
  (co_ 761 41 ((pv_ 256 0))),
  (co_ 762 41 ((pv_ 256 0))),
  (co_ 763 155 ((ag_ [(k2_ 51 0),p0_]))),
  (cr_ 764 155 (([(ag_ [(k2_ 51 0),p0_])]))),
  (co_ 766 155 ((ag_ [(k2_ 51 1),p0_]))),
  (cr_ 767 155 (([(ag_ [(k2_ 51 1),p0_])]))),
  (co_ 769 155 ((ag_ [(k2_ 51 2),p0_]))),
  (cr_ 770 155 (([(ag_ [(k2_ 51 2),p0_])]))),
  (co_ 772 155 ((ag_ [(k2_ 51 3),p0_]))),
  (cr_ 773 155 (([(ag_ [(k2_ 51 3),p0_])]))),
  (co_ 775 41 ((pv_ 256 0))),
  (co_ 776 41 ((pv_ 256 0))),
  (co_ 777 155 ((ag_ [(k2_ 52 0),p0_]))),
  (cr_ 778 155 (([(ag_ [(k2_ 52 0),p0_])]))),
  (co_ 780 155 ((ag_ [(k2_ 52 1),p0_]))),
  (cr_ 781 155 (([(ag_ [(k2_ 52 1),p0_])]))),
  (co_ 783 155 ((ag_ [(k2_ 52 2),p0_]))),
  (cr_ 784 155 (([(ag_ [(k2_ 52 2),p0_])]))),
  (co_ 786 155 ((ag_ [(k2_ 52 3),p0_]))),
  (cr_ 787 155 (([(ag_ [(k2_ 52 3),p0_])]))),
  (co_ 789 41 ((pv_ 256 0))),
  (co_ 790 41 ((pv_ 256 0))),
  (co_ 791 155 ((ag_ [(k2_ 53 0),p0_]))),
  (cr_ 792 155 (([(ag_ [(k2_ 53 0),p0_])]))),
  (co_ 794 155 ((ag_ [(k2_ 53 1),p0_]))),
  (cr_ 795 155 (([(ag_ [(k2_ 53 1),p0_])]))),
  (co_ 797 155 ((ag_ [(k2_ 53 2),p0_]))),
  (cr_ 798 155 (([(ag_ [(k2_ 53 2),p0_])]))),
  (co_ 800 155 ((ag_ [(k2_ 53 3),p0_]))),
  (cr_ 801 155 (([(ag_ [(k2_ 53 3),p0_])]))),
  (co_ 803 41 ((pv_ 256 0))),
  (co_ 804 41 ((pv_ 256 0))),
  (co_ 805 155 ((ag_ [(k2_ 54 0),p0_]))),
  (cr_ 806 155 (([(ag_ [(k2_ 54 0),p0_])]))),
  (co_ 808 155 ((ag_ [(k2_ 54 1),p0_]))),
  (cr_ 809 155 (([(ag_ [(k2_ 54 1),p0_])]))),
  (co_ 811 155 ((ag_ [(k2_ 54 2),p0_]))),
  (cr_ 812 155 (([(ag_ [(k2_ 54 2),p0_])]))),
  (co_ 814 155 ((ag_ [(k2_ 54 3),p0_]))),
  (cr_ 815 155 (([(ag_ [(k2_ 54 3),p0_])]))),
  (co_ 817 41 ((pv_ 256 0))),
  (co_ 818 41 ((pv_ 256 0))),
  (co_ 819 155 ((ag_ [(k2_ 55 0),p0_]))),
  (cr_ 820 155 (([(ag_ [(k2_ 55 0),p0_])]))),
  (co_ 822 155 ((ag_ [(k2_ 55 1),p0_]))),
  (cr_ 823 155 (([(ag_ [(k2_ 55 1),p0_])]))),
  (co_ 825 155 ((ag_ [(k2_ 55 2),p0_]))),
  (cr_ 826 155 (([(ag_ [(k2_ 55 2),p0_])]))),
  (co_ 828 155 ((ag_ [(k2_ 55 3),p0_]))),
  (cr_ 829 155 (([(ag_ [(k2_ 55 3),p0_])]))),
  (co_ 831 41 ((pv_ 256 0))),
  (co_ 832 41 ((pv_ 256 0))),
  (co_ 833 155 ((ag_ [(k2_ 56 0),p0_]))),
  (cr_ 834 155 (([(ag_ [(k2_ 56 0),p0_])]))),
  (co_ 836 155 ((ag_ [(k2_ 56 1),p0_]))),
  (cr_ 837 155 (([(ag_ [(k2_ 56 1),p0_])]))),
  (co_ 839 155 ((ag_ [(k2_ 56 2),p0_]))),
  (cr_ 840 155 (([(ag_ [(k2_ 56 2),p0_])]))),
  (co_ 842 155 ((ag_ [(k2_ 56 3),p0_]))),
  (cr_ 843 155 (([(ag_ [(k2_ 56 3),p0_])]))),
  (co_ 845 41 ((pv_ 256 0))),
  (co_ 846 41 ((pv_ 256 0))),
  (co_ 847 155 ((ag_ [(k2_ 57 0),p0_]))),
  (cr_ 848 155 (([(ag_ [(k2_ 57 0),p0_])]))),
  (co_ 850 155 ((ag_ [(k2_ 57 1),p0_]))),
  (cr_ 851 155 (([(ag_ [(k2_ 57 1),p0_])]))),
  (co_ 853 155 ((ag_ [(k2_ 57 2),p0_]))),
  (cr_ 854 155 (([(ag_ [(k2_ 57 2),p0_])]))),
  (co_ 856 155 ((ag_ [(k2_ 57 3),p0_]))),
  (cr_ 857 155 (([(ag_ [(k2_ 57 3),p0_])]))),
  (co_ 859 41 ((pv_ 256 0))),
  (co_ 860 41 ((pv_ 256 0))),
  (co_ 861 155 ((ag_ [(k2_ 58 0),p0_]))),
  (cr_ 862 155 (([(ag_ [(k2_ 58 0),p0_])]))),
  (co_ 864 155 ((ag_ [(k2_ 58 1),p0_]))),
  (cr_ 865 155 (([(ag_ [(k2_ 58 1),p0_])]))),
  (co_ 867 155 ((ag_ [(k2_ 58 2),p0_]))),
  (cr_ 868 155 (([(ag_ [(k2_ 58 2),p0_])]))),
  (co_ 870 155 ((ag_ [(k2_ 58 3),p0_]))),
  (cr_ 871 155 (([(ag_ [(k2_ 58 3),p0_])]))),
  (co_ 873 41 ((pv_ 256 0))),
  (co_ 874 41 ((pv_ 256 0))),
  (co_ 875 155 ((ag_ [(k2_ 59 0),p0_]))),
  (cr_ 876 155 (([(ag_ [(k2_ 59 0),p0_])]))),
  (co_ 878 155 ((ag_ [(k2_ 59 1),p0_]))),
  (cr_ 879 155 (([(ag_ [(k2_ 59 1),p0_])]))),
  (co_ 881 155 ((ag_ [(k2_ 59 2),p0_]))),
  (cr_ 882 155 (([(ag_ [(k2_ 59 2),p0_])]))),
  (co_ 884 155 ((ag_ [(k2_ 59 3),p0_]))),
  (cr_ 885 155 (([(ag_ [(k2_ 59 3),p0_])]))),
  (co_ 887 41 ((pv_ 256 0))),
  (co_ 888 41 ((pv_ 256 0))),
  (co_ 889 155 ((ag_ [(k2_ 60 0),p0_]))),
  (cr_ 890 155 (([(ag_ [(k2_ 60 0),p0_])]))),
  (co_ 892 155 ((ag_ [(k2_ 60 1),p0_]))),
  (cr_ 893 155 (([(ag_ [(k2_ 60 1),p0_])]))),
  (co_ 895 155 ((ag_ [(k2_ 60 2),p0_]))),
  (cr_ 896 155 (([(ag_ [(k2_ 60 2),p0_])]))),
  (co_ 898 155 ((ag_ [(k2_ 60 3),p0_]))),
  (cr_ 899 155 (([(ag_ [(k2_ 60 3),p0_])]))),
  (co_ 901 41 ((pv_ 256 0))),
  (co_ 902 41 ((pv_ 256 0))),
  (co_ 903 155 ((ag_ [(k2_ 61 0),p0_]))),
  (cr_ 904 155 (([(ag_ [(k2_ 61 0),p0_])]))),
  (co_ 906 155 ((ag_ [(k2_ 61 1),p0_]))),
  (cr_ 907 155 (([(ag_ [(k2_ 61 1),p0_])]))),
  (co_ 909 155 ((ag_ [(k2_ 61 2),p0_]))),
  (cr_ 910 155 (([(ag_ [(k2_ 61 2),p0_])]))),
  (co_ 912 155 ((ag_ [(k2_ 61 3),p0_]))),
  (cr_ 913 155 (([(ag_ [(k2_ 61 3),p0_])]))),
  (co_ 915 41 ((pv_ 256 0))),
  (co_ 916 41 ((pv_ 256 0))),
  (co_ 917 155 ((ag_ [(k2_ 62 0),p0_]))),
  (cr_ 918 155 (([(ag_ [(k2_ 62 0),p0_])]))),
  (co_ 920 155 ((ag_ [(k2_ 62 1),p0_]))),
  (cr_ 921 155 (([(ag_ [(k2_ 62 1),p0_])]))),
  (co_ 923 155 ((ag_ [(k2_ 62 2),p0_]))),
  (cr_ 924 155 (([(ag_ [(k2_ 62 2),p0_])]))),
  (co_ 926 155 ((ag_ [(k2_ 62 3),p0_]))),
  (cr_ 927 155 (([(ag_ [(k2_ 62 3),p0_])]))),
  (co_ 929 41 ((pv_ 256 0))),
  (co_ 930 41 ((pv_ 256 0))),
  (co_ 931 155 ((ag_ [(k2_ 63 0),p0_]))),
  (cr_ 932 155 (([(ag_ [(k2_ 63 0),p0_])]))),
  (co_ 934 155 ((ag_ [(k2_ 63 1),p0_]))),
  (cr_ 935 155 (([(ag_ [(k2_ 63 1),p0_])]))),
  (co_ 937 155 ((ag_ [(k2_ 63 2),p0_]))),
  (cr_ 938 155 (([(ag_ [(k2_ 63 2),p0_])]))),
  (co_ 940 155 ((ag_ [(k2_ 63 3),p0_]))),
  (cr_ 941 155 (([(ag_ [(k2_ 63 3),p0_])]))),
  (co_ 943 41 ((pv_ 256 0))),
  (co_ 944 41 ((pv_ 256 0))),
  (co_ 945 155 ((ag_ [(k2_ 64 0),p0_]))),
  (cr_ 946 155 (([(ag_ [(k2_ 64 0),p0_])]))),
  (co_ 948 155 ((ag_ [(k2_ 64 1),p0_]))),
  (cr_ 949 155 (([(ag_ [(k2_ 64 1),p0_])]))),
  (co_ 951 155 ((ag_ [(k2_ 64 2),p0_]))),
  (cr_ 952 155 (([(ag_ [(k2_ 64 2),p0_])]))),
  (co_ 954 155 ((ag_ [(k2_ 64 3),p0_]))),
  (cr_ 955 155 (([(ag_ [(k2_ 64 3),p0_])]))),
  (co_ 957 41 ((pv_ 256 0))),
  (co_ 958 41 ((pv_ 256 0))),
  (co_ 959 155 ((ag_ [(k2_ 65 0),p0_]))),
  (cr_ 960 155 (([(ag_ [(k2_ 65 0),p0_])]))),
  (co_ 962 155 ((ag_ [(k2_ 65 1),p0_]))),
  (cr_ 963 155 (([(ag_ [(k2_ 65 1),p0_])]))),
  (co_ 965 155 ((ag_ [(k2_ 65 2),p0_]))),
  (cr_ 966 155 (([(ag_ [(k2_ 65 2),p0_])]))),
  (co_ 968 155 ((ag_ [(k2_ 65 3),p0_]))),
  (cr_ 969 155 (([(ag_ [(k2_ 65 3),p0_])]))),
  (co_ 971 41 ((pv_ 256 0))),
  (co_ 972 41 ((pv_ 256 0))),
  (co_ 973 155 ((ag_ [(k2_ 66 0),p0_]))),
  (cr_ 974 155 (([(ag_ [(k2_ 66 0),p0_])]))),
  (co_ 976 155 ((ag_ [(k2_ 66 1),p0_]))),
  (cr_ 977 155 (([(ag_ [(k2_ 66 1),p0_])]))),
  (co_ 979 155 ((ag_ [(k2_ 66 2),p0_]))),
  (cr_ 980 155 (([(ag_ [(k2_ 66 2),p0_])]))),
  (co_ 982 155 ((ag_ [(k2_ 66 3),p0_]))),
  (cr_ 983 155 (([(ag_ [(k2_ 66 3),p0_])]))),
  (co_ 985 41 ((pv_ 256 0))),
  (co_ 986 41 ((pv_ 256 0))),
  (co_ 987 155 ((ag_ [(k2_ 67 0),p0_]))),
  (cr_ 988 155 (([(ag_ [(k2_ 67 0),p0_])]))),
  (co_ 990 155 ((ag_ [(k2_ 67 1),p0_]))),
  (cr_ 991 155 (([(ag_ [(k2_ 67 1),p0_])]))),
  (co_ 993 155 ((ag_ [(k2_ 67 2),p0_]))),
  (cr_ 994 155 (([(ag_ [(k2_ 67 2),p0_])]))),
  (co_ 996 155 ((ag_ [(k2_ 67 3),p0_]))),
  (cr_ 997 155 (([(ag_ [(k2_ 67 3),p0_])]))),
  (co_ 999 41 ((pv_ 256 0))),
  (co_ 1000 41 ((pv_ 256 0))),
  (co_ 1001 155 ((ag_ [(k2_ 68 0),p0_]))),
  (cr_ 1002 155 (([(ag_ [(k2_ 68 0),p0_])]))),
  (co_ 1004 155 ((ag_ [(k2_ 68 1),p0_]))),
  (cr_ 1005 155 (([(ag_ [(k2_ 68 1),p0_])]))),
  (co_ 1007 155 ((ag_ [(k2_ 68 2),p0_]))),
  (cr_ 1008 155 (([(ag_ [(k2_ 68 2),p0_])]))),
  (co_ 1010 155 ((ag_ [(k2_ 68 3),p0_]))),
  (cr_ 1011 155 (([(ag_ [(k2_ 68 3),p0_])]))),
  (co_ 1013 41 ((pv_ 256 0))),
  (co_ 1014 41 ((pv_ 256 0))),
  (co_ 1015 155 ((ag_ [(k2_ 69 0),p0_]))),
  (cr_ 1016 155 (([(ag_ [(k2_ 69 0),p0_])]))),
  (co_ 1018 155 ((ag_ [(k2_ 69 1),p0_]))),
  (cr_ 1019 155 (([(ag_ [(k2_ 69 1),p0_])]))),
  (co_ 1021 155 ((ag_ [(k2_ 69 2),p0_]))),
  (cr_ 1022 155 (([(ag_ [(k2_ 69 2),p0_])]))),
  (co_ 1024 155 ((ag_ [(k2_ 69 3),p0_]))),
  (cr_ 1025 155 (([(ag_ [(k2_ 69 3),p0_])]))),
  (1026,some (.cells true (.row 155) (.agg TaL1)))] Tat8)
noncomputable def Tat10:T8 AO:=cleanT (updAll [(40,some (.mp 151 152 TaL0)),
  (co_ 42 149 ((ag_ [(i6_ 70),(.map (some 40)),(.map (some 41)),sn_,(.map none),(i6_ 0),(i6_ 71),bf_])))] Tat9)
noncomputable def Tat11:T8 AO:=cleanT (updAll [(41,some (.mp 151 152 TaL2)),
  (co_ 42 149 ((ag_ [(i6_ 70),(.map (some 40)),(.map (some 41)),(sl_ 1327 155 4),(.map none),(i6_ 0),(i6_ 72),bf_]))),
  (co_ 1307 53 ((ag_ [(u6_ 1),(u3_ 0),(u3_ 0),(u6_ 1),(u3_ 0),(ag_ [(i6_ 2),(i6_ 2),(i6_ 64),(u3_ 9)])]))),
  (co_ 1308 53 ((ag_ [(u6_ 1),(u3_ 0),(u3_ 0),(u6_ 1),(u3_ 0),(ag_ [(i6_ 2),(i6_ 2),(i6_ 64),(u3_ 9)])]))),
  (co_ 1309 41 ((pv_ 256 1751908409537131537220509645351687597690304110853111572994449976845956819751541616602568796259317428464425605223064365804210081422215355425149431390635152085911253638465843522959981857508604293008851875670734285318939096220059161268362455799216914068289430882977843213673511900600724019059761922151704880101565941158560442611560766016760316542411190684676242985483475064780129911850738607849848280361139887424817377373644101272953211783384016475793068915461693618056008394695187698236035967089839392072683558838934504699409371870558730351604360978229291269992732098061052713652345045201730877415798))),
  (co_ 1310 53 ((ag_ [(u6_ 1),(u3_ 0),(u3_ 0),(u6_ 1),(u3_ 0),(ag_ [(i6_ 2),(i6_ 2),(i6_ 64),(u3_ 9)])]))),
  (co_ 1311 51 ((ag_ [(i6_ 2),(i6_ 2),(i6_ 64),(u3_ 9)]))),
  (co_ 1312 53 ((ag_ [(u6_ 1),(u3_ 0),(u3_ 0),(u6_ 1),(u3_ 0),(ag_ [(i6_ 2),(i6_ 2),(i6_ 64),(u3_ 9)])]))),
  (co_ 1313 111 ((pv_ 224 11717482851166227570876453214976205117921663303354067002648974488534998073493335190889920184608684255556669126369654))),
  (co_ 1314 41 ((pv_ 256 1751908409537131537220509645351687597690304110853111572994449976845956819751541616602568796259317428464425605223064365804210081422215355425149431390635152085911253638465843522959981857508604293008851875670734285318939096220059161268362455799216914068289430882977843213673511900600724019059761922151704880101565941158560442611560766016760316542411190684676242985483475064780129911850738607849848280361139887424817377373644101272953211783384016475793068915461693618056008394695187698236035967089839392072683558838934504699409371870558730351604360978229291269992732098061052713652345045201730877415798))),
  (co_ 1315 41 ((pv_ 256 1751908409537131537220509645351687597690304110853111572994449976845956819751541616602568796259317428464425605223064365804210081422215355425149431390635152085911253638465843522959981857508604293008851875670734285318939096220059161268362455799216914068289430882977843213673511900600724019059761922151704880101565941158560442611560766016760316542411190684676242985483475064780129911850738607849848280361139887424817377373644101272953211783384016475793068915461693618056008394695187698236035967089839392072683558838934504699409371870558730351604360978229291269992732098061052713652345045201730877415798))),
  (co_ 1316 155 ((ag_ [(k2_ 0 0),(pv_ 64 726838724295606890561041290739170761924517813902294265399411862483993355116046897814726048787256900751652441790874862189091270754984310)]))),
  (cr_ 1317 155 (([(ag_ [(k2_ 0 0),(pv_ 64 726838724295606890561041290739170761924517813902294265399411862483993355116046897814726048787256900751652441790874862189091270754984310)])]))),
  (co_ 1319 155 ((ag_ [(k2_ 0 1),(pv_ 64 726838724295606890549323807888004534353641360687318060281490199180639288113397923326191050713763565560762521606266177933534601628614656)]))),
  (cr_ 1320 155 (([(ag_ [(k2_ 0 1),(pv_ 64 726838724295606890549323807888004534353641360687318060281490199180639288113397923326191050713763565560762521606266177933534601628614656)])]))),
  (co_ 1322 155 ((ag_ [(k2_ 0 2),(pv_ 64 726838724295606890549323807888004534353641360687318060281490199180639288113397923326191050713763565560762521606266177933534601628614656)]))),
  (cr_ 1323 155 (([(ag_ [(k2_ 0 2),(pv_ 64 726838724295606890549323807888004534353641360687318060281490199180639288113397923326191050713763565560762521606266177933534601628614656)])]))),
  (co_ 1325 155 ((ag_ [(k2_ 0 3),(pv_ 64 726838724295606890549323807888004534353641360687318060281490199180639288113397923326191050713763565560762521606266177933534601628614656)]))),
  (cr_ 1326 155 (([(ag_ [(k2_ 0 3),(pv_ 64 726838724295606890549323807888004534353641360687318060281490199180639288113397923326191050713763565560762521606266177933534601628614656)])]))),
  (cr_ 1327 155 (([(ag_ [(k2_ 0 0),(pv_ 64 726838724295606890561041290739170761924517813902294265399411862483993355116046897814726048787256900751652441790874862189091270754984310)]),(ag_ [(k2_ 0 1),(pv_ 64 726838724295606890549323807888004534353641360687318060281490199180639288113397923326191050713763565560762521606266177933534601628614656)]),(ag_ [(k2_ 0 2),(pv_ 64 726838724295606890549323807888004534353641360687318060281490199180639288113397923326191050713763565560762521606266177933534601628614656)]),(ag_ [(k2_ 0 3),(pv_ 64 726838724295606890549323807888004534353641360687318060281490199180639288113397923326191050713763565560762521606266177933534601628614656)])])))] Tat10)
noncomputable def Tat12:T8 AO:=cleanT (updAll [(40,some (.mp 151 152 TaL2)),
  (co_ 42 149 ((ag_ [(i6_ 70),(.map (some 40)),(.map (some 41)),sn_,(.map none),(i6_ 0),(i6_ 73),bf_])))] Tat11)
noncomputable def Tat13:T8 AO:=cleanT (updAll [(40,some (.mp 151 152 TaL2)),
  (41,some (.mp 151 152 TaL2)),
  (co_ 42 149 ((ag_ [(i6_ 70),(.map (some 40)),(.map (some 41)),sn_,(.map none),(i6_ 0),(i6_ 73),bf_])))] Tat9)
noncomputable def Tat14:T8 AO:=cleanT (updAll [(co_ 36 51 ((ag_ [(i6_ 2),(i6_ 2),(i6_ 64),(u3_ 9)]))),
  (co_ 37 51 ((ag_ [(i6_ 2),(i6_ 2),(i6_ 64),(u3_ 9)]))),
  (co_ 38 53 ((ag_ [(u6_ 0),(u3_ 0),(u3_ 0),(u6_ 0),(u3_ 0),(ag_ [(i6_ 2),(i6_ 2),(i6_ 64),(u3_ 9)])]))),
  (co_ 39 51 ((ag_ [(i6_ 2),(i6_ 2),(i6_ 64),(u3_ 9)]))),
  (40,some (.mp 151 152 [])),
  (41,some (.mp 151 152 [])),
  (co_ 42 149 ((ag_ [(i6_ 70),(.map (some 40)),(.map (some 41)),sn_,(.map none),(i6_ 0),(i6_ 0),bf_])))] Tat8)
noncomputable def Tat15:T8 AO:=cleanT (updAll [(40,some (.mp 151 152 TaL2)),
  (41,some (.mp 151 152 TaL2)),
  (co_ 42 149 ((ag_ [(i6_ 70),(.map (some 40)),(.map (some 41)),sn_,(.map none),(i6_ 0),(i6_ 73),bf_])))] Tat14)
noncomputable def Tat16:T8 AO:=cleanT (updAll [(co_ 42 149 ((ag_ [(i6_ 70),(.map (some 40)),(.map (some 41)),sn_,(.map none),(i6_ 0),(i6_ 74),bf_])))] Tat15)
noncomputable def Tat17:T8 AO:=cleanT (updAll [(co_ 42 149 ((ag_ [(i6_ 70),(.map (some 40)),(.map (some 41)),sn_,(.map none),(i6_ 0),(i6_ 76),bf_])))] Tat15)
noncomputable def Tat18:T8 AO:=cleanT (updAll [(41,some (.mp 151 152 TaL3)),
  (co_ 42 149 ((ag_ [(i6_ 70),(.map (some 40)),(.map (some 41)),(sl_ 1390 155 4),(.map none),(i6_ 0),(i6_ 77),bf_]))),
  (co_ 1366 53 ((ag_ [(u6_ 2),(u3_ 1),(u3_ 0),(u6_ 1),(u3_ 0),(ag_ [(i6_ 2),(i6_ 2),(i6_ 64),(u3_ 9)])]))),
  (co_ 1367 51 ((ag_ [(i6_ 2),(i6_ 2),(i6_ 64),(u3_ 9)]))),
  (co_ 1368 53 ((ag_ [(u6_ 0),(u3_ 0),(u3_ 0),(u6_ 0),(u3_ 0),(ag_ [(i6_ 2),(i6_ 2),(i6_ 64),(u3_ 9)])]))),
  (co_ 1369 51 ((ag_ [(i6_ 2),(i6_ 2),(i6_ 64),(u3_ 9)]))),
  (co_ 1370 53 ((ag_ [(u6_ 2),(u3_ 1),(u3_ 0),(u6_ 1),(u3_ 0),(ag_ [(i6_ 2),(i6_ 2),(i6_ 64),(u3_ 9)])]))),
  (co_ 1371 53 ((ag_ [(u6_ 2),(u3_ 1),(u3_ 0),(u6_ 1),(u3_ 0),(ag_ [(i6_ 2),(i6_ 2),(i6_ 64),(u3_ 9)])]))),
  (co_ 1372 41 ((pv_ 256 3503816819074263074441019290703375195380608221706223145988899953691913639503083233205137592518634856928851210446128731608420162844430710850298862781270304171822507276931687045919963715017208586017703751341468570637878192440118322536724911598433828136578861765955686427347023801201448038119523844303409760203131882317120885223121532033520633084822381369352485970966950129560259823701477215699696560722279774849634754747288202545906423566768032951586137830923387236112016789390375396458127735052920734492082650704388780200268019433978733416757511104021524664497259320552205619912172152738811623924086))),
  (co_ 1373 53 ((ag_ [(u6_ 2),(u3_ 1),(u3_ 0),(u6_ 1),(u3_ 0),(ag_ [(i6_ 2),(i6_ 2),(i6_ 64),(u3_ 9)])]))),
  (co_ 1374 51 ((ag_ [(i6_ 2),(i6_ 2),(i6_ 64),(u3_ 9)]))),
  (co_ 1375 53 ((ag_ [(u6_ 2),(u3_ 1),(u3_ 0),(u6_ 1),(u3_ 0),(ag_ [(i6_ 2),(i6_ 2),(i6_ 64),(u3_ 9)])]))),
  (co_ 1376 111 ((pv_ 224 9490766575574405488468439456472181037292602299569406718846738124632938271498465506209940561824850573448688121831798))),
  (co_ 1377 41 ((pv_ 256 3503816819074263074441019290703375195380608221706223145988899953691913639503083233205137592518634856928851210446128731608420162844430710850298862781270304171822507276931687045919963715017208586017703751341468570637878192440118322536724911598433828136578861765955686427347023801201448038119523844303409760203131882317120885223121532033520633084822381369352485970966950129560259823701477215699696560722279774849634754747288202545906423566768032951586137830923387236112016789390375396458127735052920734492082650704388780200268019433978733416757511104021524664497259320552205619912172152738811623924086))),
  (co_ 1378 41 ((pv_ 256 3503816819074263074441019290703375195380608221706223145988899953691913639503083233205137592518634856928851210446128731608420162844430710850298862781270304171822507276931687045919963715017208586017703751341468570637878192440118322536724911598433828136578861765955686427347023801201448038119523844303409760203131882317120885223121532033520633084822381369352485970966950129560259823701477215699696560722279774849634754747288202545906423566768032951586137830923387236112016789390375396458127735052920734492082650704388780200268019433978733416757511104021524664497259320552205619912172152738811623924086))),
  (co_ 1379 155 ((ag_ [(k2_ 1 0),(pv_ 64 1453677448591213781108138382351583474195751160831108301600273000660847982945642584777015039699025596627734983774357206440517891379061110)]))),
  (cr_ 1380 155 (([(ag_ [(k2_ 1 0),(pv_ 64 1453677448591213781108138382351583474195751160831108301600273000660847982945642584777015039699025596627734983774357206440517891379061110)])]))),
  (co_ 1382 155 ((ag_ [(k2_ 1 1),(pv_ 64 1453677448591213781098647615776009068707282721374636120562980398361278576226795846652382101427527131121525043212532355867069203257229312)]))),
  (cr_ 1383 155 (([(ag_ [(k2_ 1 1),(pv_ 64 1453677448591213781098647615776009068707282721374636120562980398361278576226795846652382101427527131121525043212532355867069203257229312)])]))),
  (co_ 1385 155 ((ag_ [(k2_ 1 2),(pv_ 64 1453677448591213781098647615776009068707282721374636120562980398361278576226795846652382101427527131121525043212532355867069203257229312)]))),
  (cr_ 1386 155 (([(ag_ [(k2_ 1 2),(pv_ 64 1453677448591213781098647615776009068707282721374636120562980398361278576226795846652382101427527131121525043212532355867069203257229312)])]))),
  (co_ 1388 155 ((ag_ [(k2_ 1 3),(pv_ 64 1453677448591213781098647615776009068707282721374636120562980398361278576226795846652382101427527131121525043212532355867069203257229312)]))),
  (cr_ 1389 155 (([(ag_ [(k2_ 1 3),(pv_ 64 1453677448591213781098647615776009068707282721374636120562980398361278576226795846652382101427527131121525043212532355867069203257229312)])]))),
  (cr_ 1390 155 (([(ag_ [(k2_ 1 0),(pv_ 64 1453677448591213781108138382351583474195751160831108301600273000660847982945642584777015039699025596627734983774357206440517891379061110)]),(ag_ [(k2_ 1 1),(pv_ 64 1453677448591213781098647615776009068707282721374636120562980398361278576226795846652382101427527131121525043212532355867069203257229312)]),(ag_ [(k2_ 1 2),(pv_ 64 1453677448591213781098647615776009068707282721374636120562980398361278576226795846652382101427527131121525043212532355867069203257229312)]),(ag_ [(k2_ 1 3),(pv_ 64 1453677448591213781098647615776009068707282721374636120562980398361278576226795846652382101427527131121525043212532355867069203257229312)])])))] Tat15)
noncomputable def Tat19:T8 AO:=cleanT (updAll [(40,some (.mp 151 152 TaL3)),
  (co_ 42 149 ((ag_ [(i6_ 70),(.map (some 40)),(.map (some 41)),sn_,(.map none),(i6_ 0),(i6_ 78),bf_])))] Tat18)
noncomputable def Tat20:T8 AO:=cleanT (updAll [(co_ 1366 53 ((ag_ [(u6_ 2),(u3_ 1),(u3_ 0),(u6_ 1),(u3_ 0),(ag_ [(i6_ 2),(i6_ 2),(i6_ 64),(u3_ 9)])]))),
  (co_ 1367 51 ((ag_ [(i6_ 2),(i6_ 2),(i6_ 64),(u3_ 9)]))),
  (co_ 1368 53 ((ag_ [(u6_ 0),(u3_ 0),(u3_ 0),(u6_ 0),(u3_ 0),(ag_ [(i6_ 2),(i6_ 2),(i6_ 64),(u3_ 9)])]))),
  (co_ 1369 51 ((ag_ [(i6_ 2),(i6_ 2),(i6_ 64),(u3_ 9)])))] Tat17)
noncomputable def Tat21:T8 AO:=cleanT (updAll [(40,some (.mp 151 152 TaL3)),
  (41,some (.mp 151 152 TaL3)),
  (co_ 42 149 ((ag_ [(i6_ 70),(.map (some 40)),(.map (some 41)),sn_,(.map none),(i6_ 0),(i6_ 78),bf_])))] Tat20)
noncomputable def Tat22:T8 AO:=cleanT (updAll [(co_ 1395 161 ((ag_ [pn_,(ag_ [(u6_ 2),(u3_ 1),(u3_ 0),(u6_ 1),(u3_ 0),(ag_ [(i6_ 2),(i6_ 2),(i6_ 64),(u3_ 9)])]),(u6_ 2),(i6_ 1)]))),
  (co_ 1396 51 ((ag_ [(i6_ 2),(i6_ 2),(i6_ 64),(u3_ 9)])))] Tat21)
noncomputable def Tat23:T8 AO:=cleanT (updAll [(co_ 42 149 ((ag_ [(i6_ 70),(.map (some 40)),(.map (some 41)),sn_,(.map none),(i6_ 0),(i6_ 79),bf_])))] Tat22)
noncomputable def Tat24:T8 AO:=cleanT (updAll [(co_ 42 149 ((ag_ [(i6_ 70),(.map (some 40)),(.map (some 41)),sn_,(.map none),(i6_ 0),(i6_ 81),bf_]))),
  (co_ 1395 161 ((ag_ [(pt_ 1412 137),(ag_ [(u6_ 2),(u3_ 1),(u3_ 0),(u6_ 1),(u3_ 0),(ag_ [(i6_ 2),(i6_ 2),(i6_ 64),(u3_ 9)])]),(u6_ 2),(i6_ 1)]))),
  (co_ 1402 51 ((ag_ [(i6_ 2),(i6_ 2),(i6_ 64),(u3_ 9)]))),
  (co_ 1403 304 ((ag_ [(pt_ 42 149),(i6_ 6),(i6_ 64),(u3_ 1),sn_,sn_,s0_,(u3_ 0),(u6_ 1),(u6_ 1),bt_]))),
  (cr_ 1404 4 (([bt_,bt_,bf_,bf_]))),
  (cr_ 1405 4 (([bt_,bt_,bf_,bf_]))),
  (cr_ 1406 3 (([(i6_ 0),(i6_ 0),(i6_ 0),(i6_ 0)]))),
  (co_ 1407 415 ((ag_ [(i6_ 0),(sl_ 1404 4 4),(sl_ 1405 4 4),(sl_ 1406 3 4)]))),
  (1408,some (.mp 108 3 [((ag_ [bt_,(u1_ 0)]),(i6_ 0)),((ag_ [bt_,(u1_ 1)]),(i6_ 1))])),
  (co_ 1409 293 ((ag_ [(pt_ 42 149),(.ifc 135 (pt_ 1403 304)),(pt_ 1407 415),(i6_ 2),(i6_ 2),(sl_ 1449 295 2),(i6_ 4),(.map (some 1408))]))),
  (cr_ 1410 128 (([(ag_ [(u6_ 0),sn_]),(ag_ [(u6_ 0),sn_])]))),
  (co_ 1411 140 ((ag_ [(sl_ 1410 128 2),(i6_ 0)]))),
  (co_ 1412 137 ((ag_ [(pt_ 42 149),(pt_ 1403 304),(pt_ 1409 293),(pt_ 1411 140),(ag_ [(i6_ 2),(i6_ 2),(i6_ 64),(u3_ 9)])]))),
  (co_ 1413 108 ((ag_ [bt_,(u1_ 0)]))),
  (co_ 1414 108 ((ag_ [bt_,(u1_ 0)]))),
  (co_ 1415 111 ((pv_ 224 47692561942315010))),
  (co_ 1416 108 ((ag_ [bt_,(u1_ 0)]))),
  (co_ 1417 108 ((ag_ [bt_,(u1_ 0)]))),
  (co_ 1418 41 ((pv_ 256 47692561942315010))),
  (co_ 1419 41 ((pv_ 256 47692561942315010))),
  (co_ 1420 41 ((pv_ 256 47692561942315010))),
  (co_ 1421 41 ((pv_ 256 47692561942315010))),
  (cr_ 1422 295 (([(ag_ [(ag_ [bf_,(u1_ 0)]),(pv_ 224 0),bf_,(u6_ 0),bf_])]))),
  (co_ 1424 111 ((pv_ 224 47692561942315010))),
  (co_ 1425 111 ((pv_ 224 47692561942315010))),
  (co_ 1426 108 ((ag_ [bt_,(u1_ 0)]))),
  (co_ 1427 108 ((ag_ [bt_,(u1_ 0)]))),
  (co_ 1428 108 ((ag_ [bt_,(u1_ 0)]))),
  (co_ 1429 111 ((pv_ 224 47692561942315010))),
  (co_ 1430 111 ((pv_ 224 47692561942315010))),
  (co_ 1431 128 ((ag_ [(u6_ 0),sn_]))),
  (co_ 1432 128 ((ag_ [(u6_ 0),sn_]))),
  (co_ 1433 128 ((ag_ [(u6_ 0),sn_]))),
  (co_ 1434 128 ((ag_ [(u6_ 0),sn_]))),
  (co_ 1435 128 ((ag_ [(u6_ 0),sn_]))),
  (co_ 1436 128 ((ag_ [(u6_ 0),sn_]))),
  (co_ 1437 108 ((ag_ [bt_,(u1_ 0)]))),
  (co_ 1438 108 ((ag_ [bt_,(u1_ 0)]))),
  (co_ 1439 108 ((ag_ [bt_,(u1_ 1)]))),
  (co_ 1440 108 ((ag_ [bt_,(u1_ 1)]))),
  (co_ 1441 111 ((pv_ 224 26573149508206850))),
  (co_ 1442 108 ((ag_ [bt_,(u1_ 1)]))),
  (co_ 1443 108 ((ag_ [bt_,(u1_ 1)]))),
  (co_ 1444 41 ((pv_ 256 26573149508206850))),
  (co_ 1445 41 ((pv_ 256 26573149508206850))),
  (co_ 1446 41 ((pv_ 256 26573149508206850))),
  (co_ 1447 41 ((pv_ 256 26573149508206850))),
  (cr_ 1448 295 (([(ag_ [(ag_ [bf_,(u1_ 0)]),(pv_ 224 0),bf_,(u6_ 0),bf_])]))),
  (cr_ 1449 295 (([(ag_ [(ag_ [bt_,(u1_ 0)]),(pv_ 224 47692561942315010),bf_,(u6_ 0),bf_]),(ag_ [(ag_ [bt_,(u1_ 1)]),(pv_ 224 26573149508206850),bf_,(u6_ 0),bf_])]))),
  (co_ 1450 111 ((pv_ 224 26573149508206850))),
  (co_ 1451 111 ((pv_ 224 26573149508206850))),
  (co_ 1452 108 ((ag_ [bt_,(u1_ 1)]))),
  (co_ 1453 108 ((ag_ [bt_,(u1_ 1)]))),
  (co_ 1454 108 ((ag_ [bt_,(u1_ 1)]))),
  (co_ 1455 111 ((pv_ 224 26573149508206850))),
  (co_ 1456 111 ((pv_ 224 26573149508206850))),
  (co_ 1457 128 ((ag_ [(u6_ 0),sn_]))),
  (co_ 1458 128 ((ag_ [(u6_ 0),sn_]))),
  (co_ 1459 128 ((ag_ [(u6_ 0),sn_]))),
  (co_ 1460 128 ((ag_ [(u6_ 0),sn_]))),
  (co_ 1461 128 ((ag_ [(u6_ 0),sn_]))),
  (co_ 1462 128 ((ag_ [(u6_ 0),sn_]))),
  (co_ 1463 108 ((ag_ [bt_,(u1_ 1)]))),
  (co_ 1464 108 ((ag_ [bt_,(u1_ 1)])))] Tat22)
noncomputable def Tat25:T8 AO:=cleanT (updAll [(co_ 42 149 ((ag_ [(i6_ 70),(.map (some 40)),(.map (some 41)),sn_,(.map none),(i6_ 0),(i6_ 82),bf_]))),
  (cr_ 1404 4 (([bt_,bt_,bt_,bf_]))),
  (1408,some (.mp 108 3 [((ag_ [bt_,(u1_ 0)]),(i6_ 0)),((ag_ [bt_,(u1_ 1)]),(i6_ 1)),((ag_ [bf_,(u1_ 0)]),(i6_ 2))])),
  (co_ 1409 293 ((ag_ [(pt_ 42 149),(.ifc 135 (pt_ 1403 304)),(pt_ 1407 415),(i6_ 2),(i6_ 2),(sl_ 1476 295 3),(i6_ 4),(.map (some 1408))]))),
  (1449,none),
  (cr_ 1476 295 (([(ag_ [(ag_ [bt_,(u1_ 0)]),(pv_ 224 47692561942315010),bf_,(u6_ 0),bf_]),(ag_ [(ag_ [bt_,(u1_ 1)]),(pv_ 224 26573149508206850),bf_,(u6_ 0),bf_]),(ag_ [(ag_ [bf_,(u1_ 0)]),(pv_ 224 33506406212567041),bf_,(u6_ 0),bf_])])))] Tat24)
noncomputable def Tat26:T8 AO:=cleanT (updAll [(co_ 1481 116 ((ag_ [(u6_ 0),(u3_ 0),(ag_ [(u1_ 0),(u8_ 0)]),p0_])))] Tat25)
noncomputable def Tat27:T8 AO:=cleanT (updAll [(co_ 42 149 ((ag_ [(i6_ 70),(.map (some 40)),(.map (some 41)),sn_,(.map none),(i6_ 0),(i6_ 83),bf_]))),
  (cr_ 1404 4 (([bt_,bt_,bt_,bt_]))),
  (1408,some (.mp 108 3 [((ag_ [bt_,(u1_ 0)]),(i6_ 0)),((ag_ [bt_,(u1_ 1)]),(i6_ 1)),((ag_ [bf_,(u1_ 0)]),(i6_ 2)),((ag_ [bf_,(u1_ 1)]),(i6_ 3))])),
  (co_ 1409 293 ((ag_ [(pt_ 42 149),(.ifc 135 (pt_ 1403 304)),(pt_ 1407 415),(i6_ 2),(i6_ 2),(sl_ 1493 295 4),(i6_ 4),(.map (some 1408))]))),
  (1476,none),
  (cr_ 1493 295 (([(ag_ [(ag_ [bt_,(u1_ 0)]),(pv_ 224 47692561942315010),bf_,(u6_ 0),bf_]),(ag_ [(ag_ [bt_,(u1_ 1)]),(pv_ 224 26573149508206850),bf_,(u6_ 0),bf_]),(ag_ [(ag_ [bf_,(u1_ 0)]),(pv_ 224 33506406212567041),bf_,(u6_ 0),bf_]),(ag_ [(ag_ [bf_,(u1_ 1)]),(pv_ 224 36048469110030593),bf_,(u6_ 0),bf_])])))] Tat26)
noncomputable def Tat28:T8 AO:=cleanT (updAll [(co_ 1395 161 ((ag_ [(pt_ 1412 137),(ag_ [(u6_ 2),(u3_ 1),(u3_ 0),(u6_ 1),(u3_ 0),(ag_ [(i6_ 2),(i6_ 2),(i6_ 64),(u3_ 9)])]),(u6_ 2),(i6_ 1)]))),
  (co_ 1402 51 ((ag_ [(i6_ 2),(i6_ 2),(i6_ 64),(u3_ 9)]))),
  (co_ 1403 304 ((ag_ [(pt_ 42 149),(i6_ 6),(i6_ 64),(u3_ 1),sn_,sn_,s0_,(u3_ 0),(u6_ 1),(u6_ 1),bt_]))),
  (cr_ 1404 4 (([bf_,bf_,bf_,bf_]))),
  (cr_ 1405 4 (([bf_,bf_,bf_,bf_]))),
  (cr_ 1406 3 (([(i6_ 0),(i6_ 0),(i6_ 0),(i6_ 0)]))),
  (co_ 1407 415 ((ag_ [(i6_ 0),(sl_ 1404 4 4),(sl_ 1405 4 4),(sl_ 1406 3 4)]))),
  (1408,some (.mp 108 3 [])),
  (co_ 1409 293 ((ag_ [(pt_ 42 149),(.ifc 135 (pt_ 1403 304)),(pt_ 1407 415),(i6_ 2),(i6_ 2),sn_,(i6_ 4),(.map (some 1408))]))),
  (cr_ 1410 128 (([(ag_ [(u6_ 0),sn_]),(ag_ [(u6_ 0),sn_])]))),
  (co_ 1411 140 ((ag_ [(sl_ 1410 128 2),(i6_ 0)]))),
  (co_ 1412 137 ((ag_ [(pt_ 42 149),(pt_ 1403 304),(pt_ 1409 293),(pt_ 1411 140),(ag_ [(i6_ 2),(i6_ 2),(i6_ 64),(u3_ 9)])])))] Tat23)
noncomputable def Tat29:T8 AO:=cleanT (updAll [(1413,none),
  (1414,none),
  (1415,none),
  (1416,none),
  (1417,none),
  (1418,none),
  (1419,none),
  (1420,none),
  (1421,none),
  (1422,none),
  (1424,none),
  (1425,none),
  (1426,none),
  (1427,none),
  (1428,none),
  (1429,none),
  (1430,none),
  (1431,none),
  (1432,none),
  (1433,none),
  (1434,none),
  (1435,none),
  (1436,none),
  (1437,none),
  (1438,none),
  (1439,none),
  (1440,none),
  (1441,none),
  (1442,none),
  (1443,none),
  (1444,none),
  (1445,none),
  (1446,none),
  (1447,none),
  (1448,none),
  (1450,none),
  (1451,none),
  (1452,none),
  (1453,none),
  (1454,none),
  (1455,none),
  (1456,none),
  (1457,none),
  (1458,none),
  (1459,none),
  (1460,none),
  (1461,none),
  (1462,none),
  (1463,none),
  (1464,none),
  (1481,none)] Tat27)
noncomputable def Tat30:T8 AO:=cleanT (updAll [(41,some (.mp 151 152 TaL4)),
  (co_ 42 149 ((ag_ [(i6_ 70),(.map (some 40)),(.map (some 41)),(sl_ 1532 155 4),(.map none),(i6_ 0),(i6_ 84),bf_]))),
  (co_ 1395 161 ((ag_ [(pt_ 1412 137),(ag_ [(u6_ 2),(u3_ 1),(u3_ 0),(u6_ 1),(u3_ 0),(ag_ [(i6_ 2),(i6_ 2),(i6_ 64),(u3_ 9)])]),(u6_ 3),(i6_ 1)]))),
  (co_ 1499 119 ((pt_ 1409 293))),
  (co_ 1500 167 (sn_)),
  (co_ 1501 295 ((ag_ [(ag_ [bt_,(u1_ 0)]),(pv_ 224 47692561942315010),bf_,(u6_ 0),bf_]))),
  (co_ 1502 295 ((ag_ [(ag_ [bt_,(u1_ 1)]),(pv_ 224 26573149508206850),bf_,(u6_ 0),bf_]))),
  (co_ 1503 295 ((ag_ [(ag_ [bf_,(u1_ 0)]),(pv_ 224 33506406212567041),bf_,(u6_ 0),bf_]))),
  (co_ 1504 295 ((ag_ [(ag_ [bf_,(u1_ 1)]),(pv_ 224 36048469110030593),bf_,(u6_ 0),bf_]))),
  (co_ 1505 119 ((pt_ 1409 293))),
  (co_ 1506 167 (sn_)),
  (co_ 1507 295 ((ag_ [(ag_ [bt_,(u1_ 0)]),(pv_ 224 47692561942315010),bf_,(u6_ 0),bf_]))),
  (co_ 1508 295 ((ag_ [(ag_ [bt_,(u1_ 1)]),(pv_ 224 26573149508206850),bf_,(u6_ 0),bf_]))),
  (co_ 1509 295 ((ag_ [(ag_ [bf_,(u1_ 0)]),(pv_ 224 33506406212567041),bf_,(u6_ 0),bf_]))),
  (co_ 1510 295 ((ag_ [(ag_ [bf_,(u1_ 1)]),(pv_ 224 36048469110030593),bf_,(u6_ 0),bf_]))),
  (co_ 1511 53 ((ag_ [(u6_ 3),(u3_ 1),(u3_ 0),(u6_ 1),(u3_ 0),(ag_ [(i6_ 2),(i6_ 2),(i6_ 64),(u3_ 9)])]))),
  (co_ 1512 53 ((ag_ [(u6_ 3),(u3_ 1),(u3_ 0),(u6_ 1),(u3_ 0),(ag_ [(i6_ 2),(i6_ 2),(i6_ 64),(u3_ 9)])]))),
  (co_ 1513 53 ((ag_ [(u6_ 3),(u3_ 1),(u3_ 0),(u6_ 1),(u3_ 0),(ag_ [(i6_ 2),(i6_ 2),(i6_ 64),(u3_ 9)])]))),
  (co_ 1514 41 ((pv_ 256 5255725228611394611661528936055062793070912332559334718983349930537870459254624849807706388777952285393276815669193097412630244266646066275448294171905456257733760915397530568879945572525812879026555627012202855956817288660177483805087367397650742204868292648933529641020535701802172057179285766455114640304697823475681327834682298050280949627233572054028728956450425194340389735552215823549544841083419662274452132120932303818859635350152049427379206746385080854168025184085563094700064378337389737058977504755654774356422697920821881108186183799122226734751945496271438771124762067124097415012726))),
  (co_ 1515 53 ((ag_ [(u6_ 3),(u3_ 1),(u3_ 0),(u6_ 1),(u3_ 0),(ag_ [(i6_ 2),(i6_ 2),(i6_ 64),(u3_ 9)])]))),
  (co_ 1516 51 ((ag_ [(i6_ 2),(i6_ 2),(i6_ 64),(u3_ 9)]))),
  (co_ 1517 53 ((ag_ [(u6_ 3),(u3_ 1),(u3_ 0),(u6_ 1),(u3_ 0),(ag_ [(i6_ 2),(i6_ 2),(i6_ 64),(u3_ 9)])]))),
  (co_ 1518 111 ((pv_ 224 27108925621370243553556187883779875611959572219207891061320024330039347145253754774758041183993779698188912161874294))),
  (co_ 1519 41 ((pv_ 256 5255725228611394611661528936055062793070912332559334718983349930537870459254624849807706388777952285393276815669193097412630244266646066275448294171905456257733760915397530568879945572525812879026555627012202855956817288660177483805087367397650742204868292648933529641020535701802172057179285766455114640304697823475681327834682298050280949627233572054028728956450425194340389735552215823549544841083419662274452132120932303818859635350152049427379206746385080854168025184085563094700064378337389737058977504755654774356422697920821881108186183799122226734751945496271438771124762067124097415012726))),
  (co_ 1520 41 ((pv_ 256 5255725228611394611661528936055062793070912332559334718983349930537870459254624849807706388777952285393276815669193097412630244266646066275448294171905456257733760915397530568879945572525812879026555627012202855956817288660177483805087367397650742204868292648933529641020535701802172057179285766455114640304697823475681327834682298050280949627233572054028728956450425194340389735552215823549544841083419662274452132120932303818859635350152049427379206746385080854168025184085563094700064378337389737058977504755654774356422697920821881108186183799122226734751945496271438771124762067124097415012726))),
  (co_ 1521 155 ((ag_ [(k2_ 0 0),(pv_ 64 2180516172886820671675080349285383846614480269945734056456430169761125755401513794308612499286544451457045606002792313498792717047718262)]))),
  (cr_ 1522 155 (([(ag_ [(k2_ 0 0),(pv_ 64 2180516172886820671675080349285383846614480269945734056456430169761125755401513794308612499286544451457045606002792313498792717047718262)])]))),
  (co_ 1524 155 ((ag_ [(k2_ 0 1),(pv_ 64 2180516172886820671647971423664013603060924082061954180844470597541917864340193769978573152141290696682287564818798533800603804885843968)]))),
  (cr_ 1525 155 (([(ag_ [(k2_ 0 1),(pv_ 64 2180516172886820671647971423664013603060924082061954180844470597541917864340193769978573152141290696682287564818798533800603804885843968)])]))),
  (co_ 1527 155 ((ag_ [(k2_ 0 2),(pv_ 64 2180516172886820671647971423664013603060924082061954180844470597541917864340193769978573152141290696682287564818798533800603804885843968)]))),
  (cr_ 1528 155 (([(ag_ [(k2_ 0 2),(pv_ 64 2180516172886820671647971423664013603060924082061954180844470597541917864340193769978573152141290696682287564818798533800603804885843968)])]))),
  (co_ 1530 155 ((ag_ [(k2_ 0 3),(pv_ 64 2180516172886820671647971423664013603060924082061954180844470597541917864340193769978573152141290696682287564818798533800603804885843968)]))),
  (cr_ 1531 155 (([(ag_ [(k2_ 0 3),(pv_ 64 2180516172886820671647971423664013603060924082061954180844470597541917864340193769978573152141290696682287564818798533800603804885843968)])]))),
  (cr_ 1532 155 (([(ag_ [(k2_ 0 0),(pv_ 64 2180516172886820671675080349285383846614480269945734056456430169761125755401513794308612499286544451457045606002792313498792717047718262)]),(ag_ [(k2_ 0 1),(pv_ 64 2180516172886820671647971423664013603060924082061954180844470597541917864340193769978573152141290696682287564818798533800603804885843968)]),(ag_ [(k2_ 0 2),(pv_ 64 2180516172886820671647971423664013603060924082061954180844470597541917864340193769978573152141290696682287564818798533800603804885843968)]),(ag_ [(k2_ 0 3),(pv_ 64 2180516172886820671647971423664013603060924082061954180844470597541917864340193769978573152141290696682287564818798533800603804885843968)])])))] Tat29)
noncomputable def Tat31:T8 AO:=cleanT (updAll [(40,some (.mp 151 152 TaL4)),
  (co_ 42 149 ((ag_ [(i6_ 70),(.map (some 40)),(.map (some 41)),sn_,(.map none),(i6_ 0),(i6_ 85),bf_])))] Tat30)
noncomputable def Tat32:T8 AO:=cleanT (updAll [(co_ 1395 161 ((ag_ [(pt_ 1412 137),(ag_ [(u6_ 2),(u3_ 1),(u3_ 0),(u6_ 1),(u3_ 0),(ag_ [(i6_ 2),(i6_ 2),(i6_ 64),(u3_ 9)])]),(u6_ 3),(i6_ 1)]))),
  (co_ 1499 119 ((pt_ 1409 293))),
  (co_ 1500 167 (sn_)),
  (co_ 1501 295 ((ag_ [(ag_ [bt_,(u1_ 0)]),(pv_ 224 47692561942315010),bf_,(u6_ 0),bf_]))),
  (co_ 1502 295 ((ag_ [(ag_ [bt_,(u1_ 1)]),(pv_ 224 26573149508206850),bf_,(u6_ 0),bf_]))),
  (co_ 1503 295 ((ag_ [(ag_ [bf_,(u1_ 0)]),(pv_ 224 33506406212567041),bf_,(u6_ 0),bf_]))),
  (co_ 1504 295 ((ag_ [(ag_ [bf_,(u1_ 1)]),(pv_ 224 36048469110030593),bf_,(u6_ 0),bf_]))),
  (co_ 1505 119 ((pt_ 1409 293))),
  (co_ 1506 167 (sn_)),
  (co_ 1507 295 ((ag_ [(ag_ [bt_,(u1_ 0)]),(pv_ 224 47692561942315010),bf_,(u6_ 0),bf_]))),
  (co_ 1508 295 ((ag_ [(ag_ [bt_,(u1_ 1)]),(pv_ 224 26573149508206850),bf_,(u6_ 0),bf_]))),
  (co_ 1509 295 ((ag_ [(ag_ [bf_,(u1_ 0)]),(pv_ 224 33506406212567041),bf_,(u6_ 0),bf_]))),
  (co_ 1510 295 ((ag_ [(ag_ [bf_,(u1_ 1)]),(pv_ 224 36048469110030593),bf_,(u6_ 0),bf_]))),
  (co_ 1511 53 ((ag_ [(u6_ 3),(u3_ 1),(u3_ 0),(u6_ 1),(u3_ 0),(ag_ [(i6_ 2),(i6_ 2),(i6_ 64),(u3_ 9)])])))] Tat29)
noncomputable def Tat33:T8 AO:=cleanT (updAll [(40,some (.mp 151 152 TaL4)),
  (41,some (.mp 151 152 TaL4)),
  (co_ 42 149 ((ag_ [(i6_ 70),(.map (some 40)),(.map (some 41)),sn_,(.map none),(i6_ 0),(i6_ 85),bf_])))] Tat32)
noncomputable def Tat34:T8 AO:=cleanT (updAll [(co_ 1499 119 ((pt_ 1409 293))),
  (co_ 1500 167 (sn_)),
  (co_ 1501 295 ((ag_ [(ag_ [bt_,(u1_ 0)]),(pv_ 224 47692561942315010),bf_,(u6_ 0),bf_]))),
  (co_ 1502 295 ((ag_ [(ag_ [bt_,(u1_ 1)]),(pv_ 224 26573149508206850),bf_,(u6_ 0),bf_]))),
  (co_ 1503 295 ((ag_ [(ag_ [bf_,(u1_ 0)]),(pv_ 224 33506406212567041),bf_,(u6_ 0),bf_]))),
  (co_ 1504 295 ((ag_ [(ag_ [bf_,(u1_ 1)]),(pv_ 224 36048469110030593),bf_,(u6_ 0),bf_])))] Tat29)
noncomputable def Tat35:T8 AO:=cleanT (updAll [(co_ 1395 161 ((ag_ [(pt_ 1412 137),(ag_ [(u6_ 3),(u3_ 1),(u3_ 0),(u6_ 1),(u3_ 0),(ag_ [(i6_ 2),(i6_ 2),(i6_ 64),(u3_ 9)])]),(u6_ 3),(i6_ 0)]))),
  (1505,none),
  (1506,none),
  (1507,none),
  (1508,none),
  (1509,none),
  (1510,none),
  (1511,none)] Tat33)
noncomputable def Tat36:T8 AO:=cleanT (updAll [(1366,none),
  (1367,none),
  (1368,none),
  (1369,none),
  (1396,none),
  (1402,none),
  (1499,none),
  (1500,none),
  (1501,none),
  (1502,none),
  (1503,none),
  (1504,none)] Tat35)
noncomputable def Tat37:T8 AO:=cleanT (updAll [(1539,some (.mp 49 31 [])),
  (co_ 1540 327 ((ag_ [(u3_ 0),(u3_ 9),(u6_ 0),(.map (some 1539))]))),
  (co_ 1541 329 ((ag_ [sn_]))),
  (1542,some (.mp 49 313 [])),
  (1543,some (.mp 49 4 [])),
  (co_ 1544 189 ((ag_ [(pt_ 1395 161),(pt_ 1540 327),(pt_ 1541 329),(.map (some 1542)),(.map (some 1543)),(ag_ [pn_,pn_,pn_,pn_,pn_,pn_,pn_,pn_,pn_,pn_]),bf_])))] Tat36)
noncomputable def Tat38:T8 AO:=cleanT (updAll [(36,none),
  (37,none),
  (38,none),
  (39,none),
  (co_ 42 149 ((ag_ [(i6_ 70),(.map (some 40)),(.map (some 41)),sn_,(.map (some 1545)),(i6_ 0),(i6_ 0),bf_]))),
  (1545,some (.mp 3 4 [])),
  (co_ 1546 211 ((ag_ [(pt_ 42 149),(pt_ 1544 189),(i6_ 4),(i6_ 0),(i6_ 0),sn_,(ag_ [(i6_ (-1)),(i6_ (-1)),(i6_ (-1)),(i6_ (-1)),(i6_ (-1)),(i6_ (-1)),(i6_ (-1)),(i6_ (-1)),(i6_ (-1)),(i6_ (-1))]),(ag_ [(u6_ 0),(u6_ 0),(u6_ 0),(u6_ 0),(u6_ 0),(u6_ 0),(u6_ 0),(u6_ 0),(u6_ 0),(u6_ 0)])])))] Tat37)
noncomputable def Tat39:T8 AO:=cleanT (updAll [(co_ 1546 211 ((ag_ [(pt_ 42 149),(pt_ 1544 189),(i6_ 4),(i6_ 0),(i6_ 1),sn_,(ag_ [(i6_ (-1)),(i6_ (-1)),(i6_ (-1)),(i6_ (-1)),(i6_ (-1)),(i6_ (-1)),(i6_ (-1)),(i6_ (-1)),(i6_ (-1)),(i6_ (-1))]),(ag_ [(u6_ 0),(u6_ 0),(u6_ 0),(u6_ 0),(u6_ 0),(u6_ 0),(u6_ 0),(u6_ 0),(u6_ 0),(u6_ 0)])]))),
  (co_ 1547 73 ((ag_ [(u8_ 0),(i6_ 3),(i6_ 0),(ag_ [(u8_ 0),(u6_ 0),(u1_ 0),(i6_ 0),s0_]),sn_]))),
  (co_ 1548 73 ((ag_ [(u8_ 0),(i6_ 3),(i6_ 0),(ag_ [(u8_ 0),(u6_ 0),(u1_ 0),(i6_ 0),s0_]),sn_]))),
  (co_ 1549 57 ((ag_ [(u8_ 0),(u6_ 0),(u1_ 0),(i6_ 0),s0_]))),
  (co_ 1550 94 ((ag_ [(i6_ 3),(ag_ [(u8_ 0),(u6_ 0),(u1_ 0),(i6_ 0),s0_]),(i6_ 0),(i6_ 1),(i6_ 1),bf_,(ag_ [(i6_ 0),(u6_ 0),(u3_ 0),p0_])])))] Tat38)
noncomputable def Tat40:T8 AO:=cleanT (updAll [(co_ 1544 189 ((ag_ [(pt_ 1395 161),(pt_ 1540 327),(pt_ 1541 329),(.map (some 1542)),(.map (some 1543)),(ag_ [pn_,pn_,pn_,(pt_ 1552 197),pn_,pn_,pn_,pn_,pn_,pn_]),bf_]))),
  (co_ 1552 197 ((ag_ [(ag_ [(u8_ 0),(u6_ 0),(u1_ 0),(i6_ 0),s0_]),(i6_ 3),(i6_ 0),(u3_ 0),(ag_ [(u6_ 0),(u3_ 0),(ag_ [(u1_ 0),(u8_ 0)]),p0_]),sn_,(i6_ 0),(i6_ 0),sn_,sn_])))] Tat39)
noncomputable def Tat41:T8 AO:=cleanT (updAll [(co_ 1547 73 ((ag_ [(u8_ 0),(i6_ 3),(i6_ 0),(ag_ [(u8_ 0),(u6_ 0),(u1_ 0),(i6_ 0),s0_]),sn_])))] Tat38)
noncomputable def Tat42:T8 AO:=cleanT (updAll [(co_ 1546 211 ((ag_ [(pt_ 42 149),(pt_ 1544 189),(i6_ 4),(i6_ 0),(i6_ 1),(sl_ 1554 94 1),(ag_ [(i6_ (-1)),(i6_ (-1)),(i6_ (-1)),(i6_ 0),(i6_ (-1)),(i6_ (-1)),(i6_ (-1)),(i6_ (-1)),(i6_ (-1)),(i6_ (-1))]),(ag_ [(u6_ 0),(u6_ 0),(u6_ 0),(u6_ 0),(u6_ 0),(u6_ 0),(u6_ 0),(u6_ 0),(u6_ 0),(u6_ 0)])]))),
  (1548,none),
  (1549,none),
  (1550,none),
  (cr_ 1554 94 (([(ag_ [(i6_ 3),(ag_ [(u8_ 0),(u6_ 0),(u1_ 0),(i6_ 0),s0_]),(i6_ 0),(i6_ 1),(i6_ 0),bt_,(ag_ [(i6_ 0),(u6_ 0),(u3_ 0),p0_])])])))] Tat40)
noncomputable def Tat43:T8 AO:=cleanT (updAll [(co_ 1546 211 ((ag_ [(pt_ 42 149),(pt_ 1544 189),(i6_ 4),(i6_ 0),(i6_ 2),(sl_ 1554 94 1),(ag_ [(i6_ (-1)),(i6_ (-1)),(i6_ (-1)),(i6_ 0),(i6_ (-1)),(i6_ (-1)),(i6_ (-1)),(i6_ (-1)),(i6_ (-1)),(i6_ (-1))]),(ag_ [(u6_ 0),(u6_ 0),(u6_ 0),(u6_ 0),(u6_ 0),(u6_ 0),(u6_ 0),(u6_ 0),(u6_ 0),(u6_ 0)])]))),
  (co_ 1555 73 ((ag_ [(u8_ 2),(i6_ 1),(i6_ 0),(ag_ [(u8_ 0),(u6_ 0),(u1_ 0),(i6_ 0),s0_]),sn_]))),
  (co_ 1556 73 ((ag_ [(u8_ 2),(i6_ 1),(i6_ 0),(ag_ [(u8_ 0),(u6_ 0),(u1_ 0),(i6_ 0),s0_]),sn_])))] Tat42)
noncomputable def Tat44:T8 AO:=cleanT (updAll [(1539,some (.mp 49 31 [((u6_ 1),(u3_ 0))])),
  (co_ 1540 327 ((ag_ [(u3_ 0),(u3_ 9),(u6_ 1),(.map (some 1539))]))),
  (1542,some (.mp 49 313 [((u6_ 1),(pt_ 1561 397))])),
  (co_ 1544 189 ((ag_ [(pt_ 1395 161),(pt_ 1540 327),(pt_ 1541 329),(.map (some 1542)),(.map (some 1543)),(ag_ [pn_,pn_,pn_,pn_,pn_,pn_,pn_,pn_,pn_,pn_]),bf_]))),
  (1560,some (.mp 22 399 [])),
  (co_ 1561 397 ((ag_ [(.map (some 1560))])))] Tat43)
noncomputable def Tat45:T8 AO:=cleanT (updAll [(co_ 1546 211 ((ag_ [(pt_ 42 149),(pt_ 1544 189),(i6_ 4),(i6_ 0),(i6_ 2),(sl_ 1554 94 1),(ag_ [(i6_ (-1)),(i6_ (-1)),(i6_ (-1)),(i6_ (-1)),(i6_ (-1)),(i6_ (-1)),(i6_ (-1)),(i6_ (-1)),(i6_ (-1)),(i6_ (-1))]),(ag_ [(u6_ 0),(u6_ 0),(u6_ 0),(u6_ 1),(u6_ 0),(u6_ 0),(u6_ 0),(u6_ 0),(u6_ 0),(u6_ 0)])]))),
  (cr_ 1554 94 (([(ag_ [(i6_ 3),(ag_ [(u8_ 0),(u6_ 0),(u1_ 0),(i6_ 0),s0_]),(i6_ 0),(i6_ 1),(i6_ 2),bf_,(ag_ [(i6_ 0),(u6_ 1),(u3_ 0),p0_])])])))] Tat44)
noncomputable def Tat46:T8 AO:=cleanT (updAll [(co_ 1555 73 ((ag_ [(u8_ 2),(i6_ 1),(i6_ 0),(ag_ [(u8_ 0),(u6_ 0),(u1_ 0),(i6_ 0),s0_]),sn_])))] Tat42)
noncomputable def Tat47:T8 AO:=cleanT (updAll [(1556,none)] Tat45)
noncomputable def Tat48:T8 AO:=cleanT (updAll [(co_ 1565 233 ((ag_ [pn_,sn_]))),
  (cr_ 1566 94 (([(ag_ [(i6_ 3),(ag_ [(u8_ 0),(u6_ 0),(u1_ 0),(i6_ 0),s0_]),(i6_ 0),(i6_ 1),(i6_ 2),bf_,(ag_ [(i6_ 0),(u6_ 1),(u3_ 0),p0_])])]))),
  (co_ 1567 94 ((ag_ [(i6_ 3),(ag_ [(u8_ 0),(u6_ 0),(u1_ 0),(i6_ 0),s0_]),(i6_ 0),(i6_ 1),(i6_ 2),bf_,(ag_ [(i6_ 0),(u6_ 1),(u3_ 0),p0_])])))] Tat47)
noncomputable def Tat49:T8 AO:=cleanT (updAll [] Tat48)
noncomputable def Tat50:T8 AO:=cleanT (updAll [] .nil)
noncomputable def Tat51:T8 AO:=cleanT (updAll [] .nil)
noncomputable def Tam0:Memo:=⟨122,[(ag_ [(u8_ 0),(i6_ 3),(i6_ 0),(ag_ [(u8_ 0),(u6_ 0),(u1_ 0),(i6_ 0),s0_]),sn_])],⟨14,14,Tat0⟩,(.tup [(.str (pkS 11 133479595958387063556633441)),bt_]),⟨14,21,Tat1⟩⟩
noncomputable def Tam1:Memo:=⟨112,[(.str (pkS 11 133479595958387063556633441))],⟨1,1,Tat2⟩,(.tup [(ag_ [(u8_ 0),(i6_ 3),(i6_ 0),(ag_ [(u8_ 0),(u6_ 0),(u1_ 0),(i6_ 0),s0_]),sn_]),bt_]),⟨1,21,Tat3⟩⟩
noncomputable def Tam2:Memo:=⟨122,[(ag_ [(u8_ 2),(i6_ 1),(i6_ 0),(ag_ [(u8_ 0),(u6_ 0),(u1_ 0),(i6_ 0),s0_]),sn_])],⟨28,28,Tat4⟩,(.tup [(.str (pkS 7 13827889580830578)),bt_]),⟨28,33,Tat5⟩⟩
noncomputable def Tam3:Memo:=⟨112,[(.str (pkS 7 13827889580830578))],⟨24,24,Tat6⟩,(.tup [(ag_ [(u8_ 2),(i6_ 1),(i6_ 0),(ag_ [(u8_ 0),(u6_ 0),(u1_ 0),(i6_ 0),s0_]),sn_]),bt_]),⟨24,33,Tat7⟩⟩
noncomputable def Tam4:Memo:=⟨43,[(.str (pkS 20 58185465991177742849499909783264625652176483169))],⟨1,1,Tat2⟩,(.tup [(sl_ 35 73 2),(i6_ 0),(i6_ 0)]),⟨1,36,Tat8⟩⟩
noncomputable def Tam5:Memo:=⟨55,[(pt_ 42 149)],⟨1027,1027,Tat9⟩,(i6_ 0),⟨40,1307,Tat10⟩⟩
noncomputable def Tam6:Memo:=⟨55,[(pt_ 42 149)],⟨1328,1328,Tat11⟩,(i6_ 0),⟨40,1332,Tat12⟩⟩
noncomputable def Tam7:Memo:=⟨71,[(pt_ 42 149),(i6_ 0),(ag_ [(u6_ 1),(u3_ 0),(u3_ 0),(u6_ 1),(u3_ 0),(ag_ [(i6_ 2),(i6_ 2),(i6_ 64),(u3_ 9)])])],⟨1307,1307,Tat10⟩,(i6_ 0),⟨40,1332,Tat13⟩⟩
noncomputable def Tam8:Memo:=⟨83,[(pt_ 42 149),(ag_ [(i6_ 2),(i6_ 2),(i6_ 64),(u3_ 9)])],⟨43,43,Tat14⟩,(i6_ 0),⟨40,1332,Tat15⟩⟩
noncomputable def Tam9:Memo:=⟨55,[(pt_ 42 149)],⟨1332,1332,Tat15⟩,(i6_ 0),⟨42,1332,Tat16⟩⟩
noncomputable def Tam10:Memo:=⟨68,[(pt_ 42 149)],⟨1332,1332,Tat16⟩,(.tup [(ag_ [(u6_ 1),(u3_ 0),(u3_ 0),(u6_ 1),(u3_ 0),(ag_ [(i6_ 2),(i6_ 2),(i6_ 64),(u3_ 9)])]),(i6_ 0),(i6_ 0)]),⟨42,1366,Tat17⟩⟩
noncomputable def Tam11:Memo:=⟨55,[(pt_ 42 149)],⟨1391,1391,Tat18⟩,(i6_ 0),⟨40,1395,Tat19⟩⟩
noncomputable def Tam12:Memo:=⟨71,[(pt_ 42 149),(i6_ 1),(ag_ [(u6_ 2),(u3_ 1),(u3_ 0),(u6_ 1),(u3_ 0),(ag_ [(i6_ 2),(i6_ 2),(i6_ 64),(u3_ 9)])])],⟨1370,1370,Tat20⟩,(i6_ 0),⟨40,1395,Tat21⟩⟩
noncomputable def Tam13:Memo:=⟨153,[(pt_ 42 149),(i6_ 6),(i6_ 64),(u3_ 0)],⟨1397,1397,Tat22⟩,(.tup [sn_,(i6_ 0)]),⟨42,1402,Tat23⟩⟩
noncomputable def Tam14:Memo:=⟨57,[(pt_ 1409 293),(u1_ 0)],⟨1465,1465,Tat24⟩,(.tup [(ag_ [(u6_ 0),(u3_ 0),(ag_ [(u1_ 0),(u8_ 0)]),p0_]),(i6_ 0)]),⟨42,1481,Tat25⟩⟩
noncomputable def Tam15:Memo:=⟨57,[(pt_ 1409 293),(u1_ 1)],⟨1482,1482,Tat26⟩,(.tup [(ag_ [(u6_ 0),(u3_ 0),(ag_ [(u1_ 0),(u8_ 0)]),p0_]),(i6_ 0)]),⟨42,1498,Tat27⟩⟩
noncomputable def Tam16:Memo:=⟨74,[(pt_ 1395 161),(u3_ 0)],⟨1413,1413,Tat28⟩,(i6_ 0),⟨42,1499,Tat29⟩⟩
noncomputable def Tam17:Memo:=⟨55,[(pt_ 42 149)],⟨1533,1533,Tat30⟩,(i6_ 0),⟨40,1537,Tat31⟩⟩
noncomputable def Tam18:Memo:=⟨71,[(pt_ 42 149),(i6_ 0),(ag_ [(u6_ 3),(u3_ 1),(u3_ 0),(u6_ 1),(u3_ 0),(ag_ [(i6_ 2),(i6_ 2),(i6_ 64),(u3_ 9)])])],⟨1512,1512,Tat32⟩,(i6_ 0),⟨40,1537,Tat33⟩⟩
noncomputable def Tam19:Memo:=⟨22,[(pt_ 1395 161),(u3_ 0)],⟨1505,1505,Tat34⟩,(i6_ 0),⟨40,1537,Tat35⟩⟩
noncomputable def Tam20:Memo:=⟨21,[(pt_ 42 149),(i6_ 4)],⟨1332,1332,Tat15⟩,(.tup [(pt_ 1395 161),(i6_ 0)]),⟨40,1537,Tat36⟩⟩
noncomputable def Tam21:Memo:=⟨27,[(pt_ 42 149),(i6_ 4)],⟨1332,1332,Tat15⟩,(.tup [(pt_ 1544 189),(i6_ 0)]),⟨40,1545,Tat37⟩⟩
noncomputable def Tam22:Memo:=⟨52,[(ag_ [(i6_ 2),(i6_ 2),(i6_ 64),(u3_ 9)]),(i6_ 4)],⟨36,36,Tat8⟩,(pt_ 1546 211),⟨36,1547,Tat38⟩⟩
noncomputable def Tam23:Memo:=⟨28,[(pt_ 1544 189),(i6_ 3),(ag_ [(u8_ 0),(u6_ 0),(u1_ 0),(i6_ 0),s0_])],⟨1551,1551,Tat39⟩,(i6_ 0),⟨1544,1553,Tat40⟩⟩
noncomputable def Tam24:Memo:=⟨35,[(pt_ 1546 211),(ag_ [(u8_ 0),(i6_ 3),(i6_ 0),(ag_ [(u8_ 0),(u6_ 0),(u1_ 0),(i6_ 0),s0_]),sn_])],⟨1548,1548,Tat41⟩,(.tup []),⟨1544,1555,Tat42⟩⟩
noncomputable def Tam25:Memo:=⟨105,[(pt_ 1546 211),(i6_ 0)],⟨1557,1557,Tat43⟩,(.tup []),⟨1557,1557,Tat43⟩⟩
noncomputable def Tam26:Memo:=⟨105,[(pt_ 1546 211),(i6_ 1)],⟨1557,1557,Tat43⟩,(.tup []),⟨1557,1557,Tat43⟩⟩
noncomputable def Tam27:Memo:=⟨105,[(pt_ 1546 211),(i6_ 2)],⟨1557,1557,Tat43⟩,(.tup []),⟨1557,1557,Tat43⟩⟩
noncomputable def Tam28:Memo:=⟨26,[(pt_ 1544 189),(i6_ 3)],⟨1557,1557,Tat43⟩,(.tup [(ag_ [(i6_ 0),(u6_ 1),(u3_ 0),p0_]),bt_]),⟨1539,1564,Tat44⟩⟩
noncomputable def Tam29:Memo:=⟨105,[(pt_ 1546 211),(i6_ 3)],⟨1557,1557,Tat43⟩,(.tup []),⟨1539,1565,Tat45⟩⟩
noncomputable def Tam30:Memo:=⟨105,[(pt_ 1546 211),(i6_ 4)],⟨1565,1565,Tat45⟩,(.tup []),⟨1565,1565,Tat45⟩⟩
noncomputable def Tam31:Memo:=⟨105,[(pt_ 1546 211),(i6_ 5)],⟨1565,1565,Tat45⟩,(.tup []),⟨1565,1565,Tat45⟩⟩
noncomputable def Tam32:Memo:=⟨105,[(pt_ 1546 211),(i6_ 6)],⟨1565,1565,Tat45⟩,(.tup []),⟨1565,1565,Tat45⟩⟩
noncomputable def Tam33:Memo:=⟨105,[(pt_ 1546 211),(i6_ 7)],⟨1565,1565,Tat45⟩,(.tup []),⟨1565,1565,Tat45⟩⟩
noncomputable def Tam34:Memo:=⟨105,[(pt_ 1546 211),(i6_ 8)],⟨1565,1565,Tat45⟩,(.tup []),⟨1565,1565,Tat45⟩⟩
noncomputable def Tam35:Memo:=⟨105,[(pt_ 1546 211),(i6_ 9)],⟨1565,1565,Tat45⟩,(.tup []),⟨1565,1565,Tat45⟩⟩
noncomputable def Tam36:Memo:=⟨35,[(pt_ 1546 211),(ag_ [(u8_ 2),(i6_ 1),(i6_ 0),(ag_ [(u8_ 0),(u6_ 0),(u1_ 0),(i6_ 0),s0_]),sn_])],⟨1556,1556,Tat46⟩,(.tup []),⟨1539,1565,Tat47⟩⟩
noncomputable def Tam37:Memo:=⟨47,[(ag_ [(i6_ 3),(ag_ [(u8_ 0),(u6_ 0),(u1_ 0),(i6_ 0),s0_]),(i6_ 0),(i6_ 1),(i6_ 2),bf_,(ag_ [(i6_ 0),(u6_ 1),(u3_ 0),p0_])])],⟨1568,1568,Tat48⟩,(.str (pkS 19 1073240079300444487476449204897312030286094384)),⟨1568,1580,Tat49⟩⟩
noncomputable def Tam38:Memo:=⟨51,[(ag_ [(i6_ 2),(i6_ 2),(i6_ 64),(u3_ 9)]),(i6_ 4),(.str (pkS 20 58185465991177742849499909783264625652176483169))],⟨0,0,Tat50⟩,(.tup [(.str (pkS 20 58163147787538839729807887982877117485595959344)),(i6_ 0),(i6_ 0)]),⟨0,1581,Tat51⟩⟩
noncomputable def Tam39:Memo:=⟨42,[],⟨0,0,Tat50⟩,bt_,⟨0,1581,Tat51⟩⟩
theorem Taown0:ownT Tat0=true:=by kernel_rfl
theorem Taown2:ownT Tat2=true:=by kernel_rfl
theorem Taown4:ownT Tat4=true:=by kernel_rfl
theorem Taown6:ownT Tat6=true:=by kernel_rfl
theorem Taown8:ownT Tat8=true:=by kernel_rfl
theorem Taown9:ownT Tat9=true:=by kernel_rfl
theorem Taown10:ownT Tat10=true:=by kernel_rfl
theorem Taown11:ownT Tat11=true:=by kernel_rfl
theorem Taown14:ownT Tat14=true:=by kernel_rfl
theorem Taown15:ownT Tat15=true:=by kernel_rfl
theorem Taown16:ownT Tat16=true:=by kernel_rfl
theorem Taown18:ownT Tat18=true:=by kernel_rfl
theorem Taown20:ownT Tat20=true:=by kernel_rfl
theorem Taown22:ownT Tat22=true:=by kernel_rfl
theorem Taown24:ownT Tat24=true:=by kernel_rfl
theorem Taown26:ownT Tat26=true:=by kernel_rfl
theorem Taown28:ownT Tat28=true:=by kernel_rfl
theorem Taown30:ownT Tat30=true:=by kernel_rfl
theorem Taown32:ownT Tat32=true:=by kernel_rfl
theorem Taown34:ownT Tat34=true:=by kernel_rfl
theorem Taown39:ownT Tat39=true:=by kernel_rfl
theorem Taown41:ownT Tat41=true:=by kernel_rfl
theorem Taown43:ownT Tat43=true:=by kernel_rfl
theorem Taown45:ownT Tat45=true:=by kernel_rfl
theorem Taown46:ownT Tat46=true:=by kernel_rfl
theorem Taown48:ownT Tat48=true:=by kernel_rfl
theorem Taown50:ownT Tat50=true:=by kernel_rfl
end Go.Proofs.YtcglbpjpbjaecaaGreat.Ru
namespace Go.Proofs.YtcglbpjpbjaecaaGreat.Ru
open Go Go.Ab Go.RowKit
set_option maxRecDepth 100000
theorem Tarun0:(exTabM Pg FT hdT (orMemo hmT (allMemoC [])) pu 60).ex (V × HT) Tam0.f Tam0.args ⟨Tam0.H.next,Tam0.H.next,Tam0.H.tr⟩ (pairP [(14,7)])=some (Tam0.v,Tam0.H'):=by kernel_rfl
theorem Tamok0 (hh:HdOk Pg hd):MemoOk Pg Tam0:=memo_ofP okP tabOk (hdT_ok hh) (orMemo_ok hmT_ok (allMemoC_ok (l:=[]) trivial)) [(14,7)] (own_of Taown0) Tarun0
end Go.Proofs.YtcglbpjpbjaecaaGreat.Ru
namespace Go.Proofs.YtcglbpjpbjaecaaGreat.Ru
open Go Go.Ab Go.RowKit
set_option maxRecDepth 100000
theorem Tarun1:(exTabM Pg FT hdT (orMemo hmT (allMemoC [Tam0])) pu 60).ex (V × HT) Tam1.f Tam1.args ⟨Tam1.H.next,Tam1.H.next,Tam1.H.tr⟩ (pairP [(1,20)])=some (Tam1.v,Tam1.H'):=by kernel_rfl
theorem Tamok1 (hh:HdOk Pg hd):MemoOk Pg Tam1:=memo_ofP okP tabOk (hdT_ok hh) (orMemo_ok hmT_ok (allMemoC_ok (l:=[Tam0]) ⟨Tamok0 hh,trivial⟩)) [(1,20)] (own_of Taown2) Tarun1
end Go.Proofs.YtcglbpjpbjaecaaGreat.Ru
namespace Go.Proofs.YtcglbpjpbjaecaaGreat.Ru
open Go Go.Ab Go.RowKit
set_option maxRecDepth 100000
theorem Tarun2:(exTabM Pg FT hdT (orMemo hmT (allMemoC [])) pu 60).ex (V × HT) Tam2.f Tam2.args ⟨Tam2.H.next,Tam2.H.next,Tam2.H.tr⟩ (pairP [(28,5)])=some (Tam2.v,Tam2.H'):=by kernel_rfl
theorem Tamok2 (hh:HdOk Pg hd):MemoOk Pg Tam2:=memo_ofP okP tabOk (hdT_ok hh) (orMemo_ok hmT_ok (allMemoC_ok (l:=[]) trivial)) [(28,5)] (own_of Taown4) Tarun2
end Go.Proofs.YtcglbpjpbjaecaaGreat.Ru
namespace Go.Proofs.YtcglbpjpbjaecaaGreat.Ru
open Go Go.Ab Go.RowKit
set_option maxRecDepth 100000
theorem Tarun3:(exTabM Pg FT hdT (orMemo hmT (allMemoC [Tam2])) pu 60).ex (V × HT) Tam3.f Tam3.args ⟨Tam3.H.next,Tam3.H.next,Tam3.H.tr⟩ (pairP [(24,9)])=some (Tam3.v,Tam3.H'):=by kernel_rfl
theorem Tamok3 (hh:HdOk Pg hd):MemoOk Pg Tam3:=memo_ofP okP tabOk (hdT_ok hh) (orMemo_ok hmT_ok (allMemoC_ok (l:=[Tam2]) ⟨Tamok2 hh,trivial⟩)) [(24,9)] (own_of Taown6) Tarun3
end Go.Proofs.YtcglbpjpbjaecaaGreat.Ru
namespace Go.Proofs.YtcglbpjpbjaecaaGreat.Ru
open Go Go.Ab Go.RowKit
set_option maxRecDepth 100000
theorem Tarun4:(exTabM Pg FT hdT (orMemo hmT (allMemoC [Tam1,Tam3])) pu 60).ex (V × HT) Tam4.f Tam4.args ⟨Tam4.H.next,Tam4.H.next,Tam4.H.tr⟩ (pairP [(1,34)])=some (Tam4.v,Tam4.H'):=by kernel_rfl
theorem Tamok4 (hh:HdOk Pg hd):MemoOk Pg Tam4:=memo_ofP okP tabOk (hdT_ok hh) (orMemo_ok hmT_ok (allMemoC_ok (l:=[Tam1,Tam3]) ⟨Tamok1 hh,Tamok3 hh,trivial⟩)) [(1,34)] (own_of Taown2) Tarun4
end Go.Proofs.YtcglbpjpbjaecaaGreat.Ru
