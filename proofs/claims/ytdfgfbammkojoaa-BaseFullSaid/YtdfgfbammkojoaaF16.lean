import Derived.Test.YtdfgfbammkojoaaF13
import Derived.Test.YtdfgfbammkojoaaF14
import Derived.Test.YtdfgfbammkojoaaF15
import Derived.Test.YtdfgfbammkojoaaF05
import Derived.Test.YtdfgfbammkojoaaF07
set_option linter.unusedVariables false
set_option linter.unusedSimpArgs false
namespace Go.Proofs.Ytdfgfbammkojoaa.Sh
open Go Go.Ab Go.RowKit
open Go.Proofs.Ytdfgfbammkojoaa.Ru (Pg okP)
set_option maxRecDepth 10000
set_option maxHeartbeats 4000000
set_option linter.unusedSectionVars false
abbrev Pid:=Bool × Nat
def pV (i:Pid):V:=pidV i.1 i.2
theorem beqP (a b:Pid):beqV (pV a) (pV b)=some (decide (b=a)):=by
 obtain ⟨a,m⟩:=a
 obtain ⟨b,n⟩:=b
 simp only [pV,pidV,beqV,beqVs,if_true]
 by_cases h1:a=b
 · by_cases h2:m=n
   · subst h1 h2;simp
   · subst h1
     have:((m:Int) == (n:Int))=false:=beq_eq_false_iff_ne.2 (by omega)
     simp [this,Ne.symm h2]
 · have:(a == b)=false:=beq_eq_false_iff_ne.2 h1
   simp [this,Ne.symm h1]
def iV (i:Nat):V:=.int .i64 (i:Int)
theorem shP (i:Pid):hasShape Pg (pV i) 29=true:=by kernel_rfl
theorem shI (i:Nat):hasShape Pg (iV i) 3=true:=by kernel_rfl
theorem mpAt:mpOk Pg 97 29 3=true:=by kernel_rfl
theorem zIn:zeroV Pg 3=some (iV 0):=by kernel_rfl
structure Fr where
 id:Pid
 p:List UInt8
 dirty:Bool
 first:Nat
 torn:Bool
def frV (f:Fr):V:=.agg [pV f.id,.agg (bytesV f.p),.bool f.dirty,.int .u64 f.first,.bool f.torn]
structure Fr.ok (f:Fr):Prop where
 id:f.id.2 < 65536
 p:f.p.length=224
 first:f.first < 18446744073709551616
theorem shFr {f:Fr} (h:f.p.length=224):hasShape Pg (frV f) 102=true:=by
 show hasShape Pg (.agg [pV f.id,.agg (bytesV f.p),.bool f.dirty,.int .u64 f.first,.bool f.torn]) 102=true
 have h1:=shPay h
 have h2:=shP f.id
 have h3:ul Pg 102=ul Pg 102:=rfl
 generalize hx:V.agg (bytesV f.p)=x at h1 ⊢
 generalize hy:pV f.id=y at h2 ⊢
 have e:hasShape Pg (.agg [y,x,.bool f.dirty,.int .u64 f.first,.bool f.torn]) 102=(hasShape Pg y 29 && (hasShape Pg x 31 && true)):=by kernel_rfl
 rw [e,h1,h2];rfl
def zFr:Fr:=⟨(false,0),zer 224,false,0,false⟩
theorem zeroFr:zeroV Pg 102=some (frV zFr):=by kernel_rfl
structure Ca where
 dk:Dk
 lg:Lg
 ck:Ck
 pages:Nat
 undo:Nat
 fr:List Fr
 most:Nat
 at_:List (Pid × Nat)
def Ca.isF (c:Ca) (i:Pid):Prop:=if i.1 then i.2 < c.undo else i.2 < c.pages
instance (c:Ca) (i:Pid):Decidable (c.isF i):=by unfold Ca.isF;infer_instance
structure Ca.ok (c:Ca):Prop where
 pages:1≤c.pages∧c.pages≤16
 undo:1≤c.undo∧c.undo≤32
 most:c.ck.n=c.most∧4≤c.most∧c.most≤32
 len:c.fr.length≤c.most
 fr:∀ f∈c.fr,f.ok
 is:∀ f∈c.fr,c.isF f.id
 at_:∀ k i,kget c.at_ k=some i↔c.fr[i]?.map Fr.id=some k
 uq:Kuniq c.at_
 size:2 + c.pages + c.undo≤c.dk.n
structure CaN where
 d:Nat
 l:Nat
 k:Nat
 s:Nat
 c:Nat
 q:Nat
 m:Nat
def caV (c:Ca) (n:CaN) (lv:V):V:=.agg [dkP n.d,.ifc 43 (lgP n.l),ckP n.k,.int .i64 c.pages,.int .i64 c.undo,lv,.int .i64 c.most,.map (some n.m)]
abbrev caP (p:Nat):V:=.ptr (some ⟨p,.one 99,[]⟩)
structure CaB (h:AH) (p:Nat) (n:CaN) (lv:V) (c:Ca):Prop where
 cache:h.m p=some (.cells true (.one 99) (caV c n lv))
 frs:RwB 102 h lv (c.fr.map frV)
 at_:h.m n.m=some (.mp 29 3 (kmV pV iV c.at_))
 dk:DkA h n.d c.dk
 lg:LgA h n.l c.lg
 ck:CkA h n.k n.s n.c n.q c.ck
 o:p < h.next∧n.m < h.next
 lgd:c.lg.d=n.d
 ok:c.ok
def CaA (h:AH) (p:Nat) (n:CaN) (c:Ca):Prop:=∃ lv,CaB h p n lv c
abbrev TCa:Tags:=[(0,99,0),(1,102,0),(2,29,3),(0,119,0),(2,121,122),(1,125,0),(2,3,4),(0,89,0),(1,160,0),(1,172,0),(0,153,0),(1,4,0),(1,3,0)]
def outT (S T:Tags):Bool:=S.all fun t=>!T.contains t
theorem outT_at {S T:Tags} (h:outT S T=true) {t:Nat × Nat × Nat} (ht:S.contains t=true):T.contains t=false:=by
 have:=List.all_eq_true.1 h t (by simpa using ht)
 simpa using this
theorem CaB.keep {T:Tags} {h h':AH} {p:Nat} {n:CaN} {lv:V} {c:Ca} (k:CaB h p n lv c) (q:Keeps T h h') (ht:outT TCa T=true):CaB h' p n lv c:=by
 obtain ⟨k1,k2,k3,k4,k5,k6,⟨o1,o2⟩,e,ok⟩:=k
 have:=q.next
 exact ⟨q.at k1 o1 (outT_at ht rfl),k2.keep q (outT_at ht rfl),q.at k3 o2 (outT_at ht rfl),k4.keep q (outT_at ht rfl) (outT_at ht rfl) (outT_at ht rfl) (outT_at ht rfl),
   k5.keep q (outT_at ht rfl) (outT_at ht rfl) (outT_at ht rfl),k6.keep q (outT_at ht rfl) (outT_at ht rfl) (outT_at ht rfl),⟨by omega,by omega⟩,e,ok⟩
theorem CaA.keep {T:Tags} {h h':AH} {p:Nat} {n:CaN} {c:Ca} (k:CaA h p n c) (q:Keeps T h h') (ht:outT TCa T=true):CaA h' p n c:=by
 obtain ⟨lv,k⟩:=k
 exact ⟨lv,k.keep q ht⟩
theorem nnCa (p:Nat):aBin Pg .eql 47 (caP p) (.ptr none) true=some (.bool false):=by kernel_rfl
section
variable {h:AH} {p:Nat} {n:CaN} {lv:V} {c:Ca}
theorem caIs (k:CaB h p n lv c) (i:Pid) (hi:i.2 < 65536):ACalls Pg 30 [caP p,pV i] h (pureE (.bool (decide (c.isF i))) h):=by
 refine acalls_forget rfl ?_
 show ACalls Pg 30 _ h (EndsO _ h)
 refine C30 _ _ _ _ ?_
 refine bindE (new_at (shP i)) fun h1 u1=>?_
 have f1:=u1.at_
 have k1:=k.keep (T:=[]) (Keeps.new u1) rfl
 have f0:=k1.cache
 have fr:∀ q,q < h.next→h1.m q=h.m q:=fun q hq=>u1.other q hq
 have o1:=c.pages
 have p1:=k.ok.pages
 have p2:=k.ok.undo
 refine bindS_mk (nnCa p) ?_
 refine i_f ?_
 obtain ⟨iu,ino⟩:=i
 have hi:ino < 65536:=hi
 refine Meet.of (cast_p (Jz3q_eq ..) ?_)
 refine fS_fa (by kernel_rfl) ?_
 refine fV_ld f1 (by kernel_rfl) (w:=.bool iu) rfl ?_
 cases iu with
 | true =>
   refine i_t ?_
   refine fO_fa (by kernel_rfl) ?_
   refine fW_ld f1 (by kernel_rfl) (w:=.int .u16 ino) rfl ?_
   by_cases g:ino < c.undo
   · rw [show decide (c.isF (true,ino))=true from decide_eq_true (by unfold Ca.isF;rw [if_pos rfl];exact g)]
     refine fO_cv_i64 (by decide +kernel) (by omega) (by omega) ?_
     refine fW_nil ?_
     refine fO_fa (by kernel_rfl) ?_
     refine fW_ld f0 (by kernel_rfl) rfl ?_
     refine fO_lss_t (by omega) ?_
     exact ⟨rfl,fr⟩
   · rw [show decide (c.isF (true,ino))=false from decide_eq_false (by unfold Ca.isF;rw [if_pos rfl];exact g)]
     refine fO_cv_i64 (by decide +kernel) (by omega) (by omega) ?_
     refine fW_nil ?_
     refine fO_fa (by kernel_rfl) ?_
     refine fW_ld f0 (by kernel_rfl) rfl ?_
     refine fO_lss_f (by omega) ?_
     exact ⟨rfl,fr⟩
 | false =>
   refine i_f ?_
   refine Meet.of (cast_p (Jz3r_eq ..) ?_)
   refine fO_fa (by kernel_rfl) ?_
   refine fW_ld f1 (by kernel_rfl) (w:=.int .u16 ino) rfl ?_
   by_cases g:ino < c.pages
   · rw [show decide (c.isF (false,ino))=true from decide_eq_true (by unfold Ca.isF;rw [if_neg (by simp)];exact g)]
     refine fO_cv_i64 (by decide +kernel) (by omega) (by omega) ?_
     refine fW_nil ?_
     refine fO_fa (by kernel_rfl) ?_
     refine fW_ld f0 (by kernel_rfl) rfl ?_
     refine fO_lss_t (by omega) ?_
     exact ⟨rfl,fr⟩
   · rw [show decide (c.isF (false,ino))=false from decide_eq_false (by unfold Ca.isF;rw [if_neg (by simp)];exact g)]
     refine fO_cv_i64 (by decide +kernel) (by omega) (by omega) ?_
     refine fW_nil ?_
     refine fO_fa (by kernel_rfl) ?_
     refine fW_ld f0 (by kernel_rfl) rfl ?_
     refine fO_lss_f (by omega) ?_
     exact ⟨rfl,fr⟩
def frP (lv:V) (i:Nat):V:=match lv with
 | .slc (some (⟨n,t,_⟩,s)) _=>.ptr (some ⟨n,t,[s + i]⟩)
 | _=>.ptr none
def findV (lv:V):Option Nat→V
 | none=>.tup [.ptr none,.int .i64 0]
 | some i=>.tup [frP lv i,.int .i64 i]
theorem Ca.ok.lt {c:Ca} (o:c.ok) {k:Pid} {i:Nat} (h:kget c.at_ k=some i):i < c.fr.length:=by
 have:=(o.at_ k i).1 h
 cases hf:c.fr[i]? with
 | none=>rw [hf] at this;cases this
 | some f=>exact (List.getElem?_eq_some_iff.1 hf).1
theorem CaB.row (k:CaB h p n lv c) (hc:0 < c.fr.length):∃ r,r < h.next∧lv=.slc (some (⟨r,.row 102,[]⟩,0)) c.fr.length∧h.m r=some (.cells true (.row 102) (.agg (c.fr.map frV))):=by
 rcases k.frs with ⟨rfl,e⟩ | ⟨r,h1,e,h3⟩
 · have:(c.fr.map frV).length=0:=by rw [e];rfl
   rw [List.length_map] at this;omega
 · exact ⟨r,h1,by rw [e,List.length_map],h3⟩
theorem caFind (k:CaB h p n lv c) (i:Pid):ACalls Pg 31 [caP p,pV i] h (pureE (findV lv (kget c.at_ i)) h):=by
 have ho:oldV (fun n=>(h.m n).isSome) (findV lv (kget c.at_ i))=true:=by
   cases hk:kget c.at_ i with
   | none=>rfl
   | some j =>
     obtain ⟨r,h1,rfl,h3⟩:=k.row (by have:=k.ok.lt hk;omega)
     simp only [findV,frP,oldV,oldVs,h3,Option.isSome_some,Bool.and_self]
 refine acalls_forget ho ?_
 show ACalls Pg 31 _ h (EndsO _ h)
 refine C31 _ _ _ _ ?_
 refine bindE (new_at (shP i)) fun h1 u1=>?_
 have f1:=u1.at_
 have k1:=k.keep (T:=[]) (Keeps.new u1) rfl
 have f0:=k1.cache
 have fr:∀ q,q < h.next→h1.m q=h.m q:=fun q hq=>u1.other q hq
 refine bindS_mk (nnCa p) ?_
 refine i_f ?_
 refine Meet.of (cast_p (Jz3s_eq ..) ?_)
 refine fW_nil ?_
 refine fO_fa (by kernel_rfl) ?_
 refine fW_ld f0 (by kernel_rfl) rfl ?_
 refine fW_ld f1 (by kernel_rfl) (w:=pV i) rfl ?_
 refine bindSO_mk (kLook2 beqP mpAt k1.at_ (shP i) zIn) ?_
 refine fO_e0 ?_
 refine fO_e1 ?_
 cases hk:kget c.at_ i with
 | none =>
   refine fS_nf ?_
   refine i_t ?_
   exact ⟨rfl,fr⟩
 | some j =>
   have hj:=k.ok.lt hk
   obtain ⟨r,h1,rfl,h3⟩:=k1.row (by omega)
   refine fS_nt ?_
   refine i_f ?_
   refine Meet.of (cast_p (Jz3t_eq ..) ?_)
   refine fV_nil ?_
   refine fS_fa (by kernel_rfl) ?_
   refine fV_ld f0 (by kernel_rfl) rfl ?_
   refine bindS_mk (ia_slc _ (by kernel_rfl) (by show (0:Int)≤((j:Nat):Int);omega) (by show ((j:Nat):Int) < _;omega)) ?_
   refine ⟨?_,fr⟩
   show AEnd.ret (.tup [.ptr (some ⟨r,_,[0 + ((j:Nat):Int).toNat]⟩),.int .i64 ((j:Nat):Int)])=_
   rw [at_nat]
   simp only [findV,frP,Nat.zero_add]
end
end Go.Proofs.Ytdfgfbammkojoaa.Sh
namespace Go.Proofs.Ytdfgfbammkojoaa.Sh
open Go Go.Ab Go.RowKit
open Go.Proofs.Ytdfgfbammkojoaa.Ru (Pg okP)
set_option maxRecDepth 10000
set_option maxHeartbeats 4000000
set_option linter.unusedSectionVars false
abbrev TC0:Tags:=[(0,99,0),(1,102,0),(2,29,3)]
abbrev TF:Tags:=[(1,102,0)]
section
variable {h:AH} {p:Nat} {n:CaN} {lv:V} {c:Ca}
theorem CaB.parts {T:Tags} {h':AH} {dk':Dk} {lg':Lg} {ck':Ck} (k:CaB h p n lv c) (q:Keeps T h h') (ht:outT TC0 T=true) (d:DkA h' n.d dk') (l:LgA h' n.l lg') (a:CkA h' n.k n.s n.c n.q ck') (e1:dk'.n=c.dk.n) (e2:lg'.d=c.lg.d) (e3:ck'.n=c.ck.n) :
   CaB h' p n lv { c with dk:=dk',lg:=lg',ck:=ck' }:=by
 obtain ⟨k1,k2,k3,k4,k5,k6,⟨o1,o2⟩,e,⟨a1,a2,a3,a4,a5,a6,a7,a8,a9⟩⟩:=k
 have:=q.next
 exact ⟨q.at k1 o1 (outT_at ht rfl),k2.keep q (outT_at ht rfl),q.at k3 o2 (outT_at ht rfl),d,l,a,⟨by omega,by omega⟩,e2.trans e,
   a1,a2,⟨e3.trans a3.1,a3.2⟩,a4,a5,a6,a7,a8,by rw [e1];exact a9⟩
theorem CaB.clock {T:Tags} {h':AH} {ck':Ck} (k:CaB h p n lv c) (q:Keeps T h h') (ht:outT [(0,99,0),(1,102,0),(2,29,3),(0,119,0),(2,121,122),(1,125,0),(2,3,4),(0,89,0),(1,160,0),(1,172,0)] T=true) (a:CkA h' n.k n.s n.c n.q ck') (e3:ck'.n=c.ck.n) :
   CaB h' p n lv { c with ck:=ck' } :=
 k.parts q (by
   refine List.all_eq_true.2 fun t ht'=>?_
   have:=List.all_eq_true.1 ht t (by
     simp only [List.mem_cons,List.not_mem_nil,or_false] at ht' ⊢
     rcases ht' with x | x | x
     · exact .inl x
     · exact .inr (.inl x)
     · exact .inr (.inr (.inl x)))
   exact this) (k.dk.keep q (outT_at ht rfl) (outT_at ht rfl) (outT_at ht rfl) (outT_at ht rfl)) (k.lg.keep q (outT_at ht rfl) (outT_at ht rfl) (outT_at ht rfl)) a rfl rfl e3
structure AtB (h:AH) (lv:V) (c:Ca) (i:Pid) (j r:Nat) (f:Fr):Prop where
 hf:c.fr[j]?=some f
 id:f.id=i
 ok:f.ok
 lt:j < c.fr.length
 jn:j < c.ck.n
 hr:r < h.next
 hl:lv=.slc (some (⟨r,.row 102,[]⟩,0)) c.fr.length
 m:h.m r=some (.cells true (.row 102) (.agg (c.fr.map frV)))
theorem CaB.at (k:CaB h p n lv c) {i:Pid} {j:Nat} (hk:kget c.at_ i=some j):∃ r f,AtB h lv c i j r f:=by
 have hj:=k.ok.lt hk
 obtain ⟨r,h1,h2,h3⟩:=k.row (by omega)
 have e:=(k.ok.at_ i j).1 hk
 have hf:c.fr[j]?=some c.fr[j]:=List.getElem?_eq_getElem hj
 rw [hf] at e
 have:=k.ok.most
 have:=k.ok.len
 exact ⟨r,c.fr[j],hf,by simpa using e,k.ok.fr _ (List.getElem_mem hj),hj,by omega,h1,h2,h3⟩
theorem AtB.keep {T:Tags} {h':AH} {i:Pid} {j r:Nat} {f:Fr} (a:AtB h lv c i j r f) (q:Keeps T h h') (ht:T.contains (1,102,0)=false):AtB h' lv c i j r f:=by
 obtain ⟨a1,a2,a3,a4,a5,a6,a7,a8⟩:=a
 have:=q.next
 exact ⟨a1,a2,a3,a4,a5,by omega,a7,q.at a8 a6 ht⟩
theorem AtB.find {i:Pid} {j r:Nat} {f:Fr} (a:AtB h lv c i j r f):findV lv (some j)=.tup [.ptr (some ⟨r,.row 102,[j]⟩),.int .i64 j]:=by
 rw [a.hl];simp only [findV,frP,Nat.zero_add]
theorem get_fr {l:List Fr} {j:Nat} {f:Fr} (hf:l[j]?=some f) (q:List Nat):getV (.agg (l.map frV)) (j :: q)=getV (frV f) q:=by
 simp only [getV,List.getElem?_map,hf,Option.map_some]
theorem set_fr {l:List Fr} {j:Nat} {f f':Fr} (hf:l[j]?=some f) {q:List Nat} {x:V} (hx:setV (frV f) q x=some (frV f')):setV (.agg (l.map frV)) (j :: q) x=some (.agg ((l.set j f').map frV)):=by
 simp only [setV,List.getElem?_map,hf,Option.map_some,hx,List.map_set]
theorem CaB.setF {h':AH} {i:Pid} {j r:Nat} {f f':Fr} (k:CaB h p n lv c) (a:AtB h lv c i j r f) (u:Upd h h' r (.cells true (.row 102) (.agg ((c.fr.set j f').map frV)))) (e:f'.id=f.id) (ok:f'.ok) :
   CaB h' p n lv { c with fr:=c.fr.set j f' }∧AtB h' lv { c with fr:=c.fr.set j f' } i j r f':=by
 have q:Keeps TF h h':=Keeps.upd u a.m rfl rfl
 have:=q.next
 obtain ⟨k1,k2,k3,k4,k5,k6,⟨o1,o2⟩,e',⟨a1,a2,a3,a4,a5,a6,a7,a8,a9⟩⟩:=k
 obtain ⟨b1,b2,b3,b4,b5,b6,b7,b8⟩:=a
 have hid:∀ x,(c.fr.set j f')[x]?.map Fr.id=c.fr[x]?.map Fr.id:=fun x=>by
   rw [List.getElem?_set]
   by_cases g:j=x
   · subst g
     rw [if_pos rfl,if_pos b4,b1]
     simp [e]
   · rw [if_neg g]
 have hm:∀ g∈c.fr.set j f',g∈c.fr∨g=f':=fun g hg=>by
   rcases List.mem_or_eq_of_mem_set hg with x | x
   · exact .inl x
   · exact .inr x
 refine ⟨⟨q.at k1 o1 rfl,.inr ⟨r,by omega,by rw [b7];simp,u.at_⟩,q.at k3 o2 rfl,k4.keep q rfl rfl rfl rfl,k5.keep q rfl rfl rfl,k6.keep q rfl rfl rfl,⟨by omega,by omega⟩,e',
     a1,a2,a3,by simpa using a4,fun g hg=>?_,fun g hg=>?_,fun x y=>?_,a8,a9⟩,⟨?_,e.trans b2,ok,by simpa using b4,b5,by omega,by rw [b7];simp,u.at_⟩⟩
 · rcases hm g hg with x | rfl
   · exact a5 g x
   · exact ok
 · rcases hm g hg with x | rfl
   · exact a6 g x
   · show c.isF g.id
     rw [e];exact a6 f (List.mem_of_getElem? b1)
 · show _↔(c.fr.set j f')[y]?.map Fr.id=some x
   rw [hid];exact a7 x y
 · show (c.fr.set j f')[j]?=some f'
   rw [List.getElem?_set,if_pos rfl,if_pos b4]
def Ca.frame (c:Ca) (j:Nat):Fr:=(c.fr[j]?).getD zFr
theorem AtB.frame {i:Pid} {j r:Nat} {f:Fr} (a:AtB h lv c i j r f):c.frame j=f:=by unfold Ca.frame;rw [a.hf];rfl
def Ca.clean (c:Ca) (i:Pid):Bool:=match kget c.at_ i with
 | none=>true
 | some j=>!(c.frame j).dirty
theorem caClean (k:CaB h p n lv c) (i:Pid):ACalls Pg 24 [caP p,pV i] h (pureE (.bool (c.clean i)) h):=by
 refine acalls_forget rfl ?_
 show ACalls Pg 24 _ h (EndsO _ h)
 refine C24 _ _ _ _ ?_
 refine bindE (new_at (shP i)) fun h1 u1=>?_
 have q1:Keeps [] h h1:=Keeps.new u1
 have fr:∀ q,q < h.next→h1.m q=h.m q:=fun q hq=>u1.other q hq
 have k1:=k.keep q1 rfl
 have f1:=u1.at_
 refine fV_ld f1 (by kernel_rfl) (w:=pV i) rfl ?_
 refine callS (caFind k1 i) ?_
 unfold Ca.clean
 cases hk:kget c.at_ i with
 | none =>
   refine fS_e0 ?_
   refine fS_e1 ?_
   refine bindS_mk (show aBin Pg .eql 90 (.ptr none) (.ptr none) true=some (.bool true) by kernel_rfl) ?_
   refine g_tf ?_
   refine Meet.of (cast_p (Gzc_eq ..) ?_)
   refine fV_pt ?_
   refine Meet.of (cast_p (Jz37_eq ..) ?_)
   exact ⟨rfl,fr⟩
 | some j =>
   obtain ⟨r,f,a⟩:=k1.at hk
   show bindV (still (aExtract (findV lv (some j)) 0) h1) _
   simp only [a.frame]
   rw [a.find]
   refine fS_e0 ?_
   refine fS_e1 ?_
   refine bindS_mk (show aBin Pg .eql 90 (.ptr (some _)) (.ptr none) true=some (.bool false) by kernel_rfl) ?_
   refine g_ff ?_
   refine fV_nil ?_
   refine fS_fa (by kernel_rfl) ?_
   refine fV_ld a.m (by kernel_rfl) (w:=.bool f.dirty) (by rw [List.singleton_append,get_fr a.hf];rfl) ?_
   refine bindS_mk (show aUn .not (.bool f.dirty)=some (.bool (!f.dirty)) from rfl) ?_
   refine Meet.of (cast_p (Gzc_eq ..) ?_)
   refine fV_pf ?_
   refine Meet.of (cast_p (Jz37_eq ..) ?_)
   exact ⟨rfl,fr⟩
theorem caUnpinD (k:CaB h p n lv c) (i:Pid) {j:Nat} (hk:kget c.at_ i=some j) (hp:0 < c.ck.pins.getD j 0) :
   ACallsD Pg 22 [caP p,pV i] h (Gives TI h (.int .i64 0) fun h'=>CaB h' p n lv { c with ck:={ c.ck with pins:=c.ck.pins.set j (c.ck.pins.getD j 0 - 1) } }):=by
 refine D22 _ _ _ _ ?_
 refine bindE (new_at (shP i)) fun h1 u1=>?_
 have q1:Keeps TI h h1:=Keeps.new u1
 have k1:=k.keep (T:=[]) (Keeps.new u1) rfl
 have f1:=u1.at_
 refine fV_ld f1 (by kernel_rfl) (w:=pV i) rfl ?_
 refine callS (caFind k1 i) ?_
 rw [hk]
 obtain ⟨r,f,a⟩:=k1.at hk
 rw [a.find]
 refine fS_e0 ?_
 refine fS_e1 ?_
 refine bindS_mk (show aBin Pg .eql 90 (.ptr (some _)) (.ptr none) true=some (.bool false) by kernel_rfl) ?_
 refine g_ff ?_
 refine fV_nil ?_
 refine fS_fa (by kernel_rfl) ?_
 refine fV_ld k1.cache (by kernel_rfl) (w:=ckP n.k) rfl ?_
 refine callG (ckUnpin k1.ck a.jn hp) fun h2 q2 k2=>?_
 refine fS_nt ?_
 refine Meet.of (cast_p (Gz9_eq ..) ?_)
 refine fV_pf ?_
 refine Meet.of (cast_p (Jz2y_eq ..) ?_)
 refine i_f ?_
 refine Meet.of (cast_p (Jz2z_eq ..) ?_)
 exact ⟨rfl,q1.trans q2,k1.clock q2 rfl k2 (by show (c.ck.pins.set _ _).length=_;simp [Ck.n])⟩
def Ca.cold (c:Ca) (i:Pid) (b:Bool):Ca:=match kget c.at_ i with
 | none=>c
 | some j=>{ c with ck:={ c.ck with cold:=c.ck.cold.set j b } }
def Fr.put (f:Fr) (x:List UInt8):Fr:={ f with p:=x,torn:=false,dirty:=true,first:=if f.dirty then f.first else getW x 7 8 }
theorem caPut (k:CaB h p n lv c) (i:Pid) {j:Nat} (hk:kget c.at_ i=some j) (hp:0 < c.ck.pins.getD j 0) {x:List UInt8} (hx:x.length=224) (hr:∀ h,ACalls Pg 39 [pV i,.agg (bytesV x)] h (pureE (.bool true) h)) :
   ACalls Pg 27 [caP p,pV i,.agg (bytesV x)] h (Gives TF h (.int .i64 0) fun h'=>CaB h' p n lv { c with fr:=c.fr.set j ((c.frame j).put x) }):=by
 refine C27 _ _ _ _ _ ?_
 refine bindE (new_at (shP i)) fun h1 u1=>?_
 have q1:Keeps [] h h1:=Keeps.new u1
 have n1:=u1.next
 refine bindE (new_at (shPay hx)) fun h2 u2=>?_
 have q2:Keeps [] h1 h2:=Keeps.new u2
 have n2:=u2.next
 have f1:=q2.at u1.at_ (by omega) rfl
 have f2:=u2.at_
 have k2:=k.keep (q1.trans q2) rfl
 refine fV_ld f1 (by kernel_rfl) (w:=pV i) rfl ?_
 refine callS (caFind k2 i) ?_
 rw [hk]
 obtain ⟨r,f,a⟩:=k2.at hk
 rw [a.find,a.frame]
 refine fS_e0 ?_
 refine fS_e1 ?_
 refine bindS_mk (show aBin Pg .eql 90 (.ptr (some _)) (.ptr none) true=some (.bool false) by kernel_rfl) ?_
 refine g_ff ?_
 refine fV_nil ?_
 refine fS_fa (by kernel_rfl) ?_
 refine fV_ld k2.cache (by kernel_rfl) (w:=ckP n.k) rfl ?_
 refine callS (ckPins k2.ck a.jn) ?_
 refine fS_eql_f (by omega) ?_
 refine Meet.of (cast_p (Gzf_eq ..) ?_)
 refine fV_pf ?_
 refine g_ff ?_
 refine fV_ld f1 (by kernel_rfl) rfl ?_
 refine fV_ld f2 (by kernel_rfl) rfl ?_
 refine callS (hr h2) ?_
 refine fS_nt ?_
 refine Meet.of (cast_p (Gzg_eq ..) ?_)
 refine fV_pf ?_
 refine Meet.of (cast_p (Jz3j_eq ..) ?_)
 refine i_f ?_
 refine Meet.of (cast_p (Jz3k_eq ..) ?_)
 refine fV_nil ?_
 refine fS_fa (by kernel_rfl) ?_
 have hl:getW x 7 8 < 18446744073709551616:=getW_ltn x 7 8
 have rest:∀ (h3:AH) (f3:Fr),Keeps TF h h3→CaB h3 p n lv { c with fr:=c.fr.set j f3 }→AtB h3 lv { c with fr:=c.fr.set j f3 } i j r f3→f3.id=f.id→f3.dirty=true→f3.first=(f.put x).first→h3.m h1.next=some (.cells true (.one 31) (.agg (bytesV x)))→h1.next < h3.next →
     Jz3l (Gives TF h (.int .i64 0) fun h'=>CaB h' p n lv { c with fr:=c.fr.set j (f.put x) }) (.ptr (some ⟨h1.next,.one 31,[]⟩)) (.ptr (some ⟨r,.row 102,[j]⟩)) h3:=by
   intro h3 f3 q3 k3 a3 e1 e2 e3 g2 g3
   rw [Jz3l_eq]
   refine fV_ld g2 (by kernel_rfl) (w:=.agg (bytesV x)) rfl ?_
   refine fV_nil ?_
   refine fS_fa (by kernel_rfl) ?_
   refine bindE (st_at a3.m (by kernel_rfl) (w:=.agg (bytesV f3.p)) (by rw [List.singleton_append,get_fr a3.hf];rfl) (shPay hx) (by rw [List.singleton_append];exact set_fr (f':={ f3 with p:=x }) a3.hf rfl)) fun h4 u4=>?_
   obtain ⟨k4,a4⟩:=k3.setF a3 u4 rfl ⟨a3.ok.id,hx,a3.ok.first⟩
   have q4:Keeps TF h3 h4:=Keeps.upd u4 a3.m rfl rfl
   refine fV_nil ?_
   refine fS_fa (by kernel_rfl) ?_
   refine bindE (st_at a4.m (by kernel_rfl) (w:=.bool f3.torn) (by rw [List.singleton_append,get_fr a4.hf];rfl) (by kernel_rfl) (by rw [List.singleton_append];exact set_fr (f':={ f3 with p:=x,torn:=false }) a4.hf rfl)) fun h5 u5=>?_
   obtain ⟨k5,a5⟩:=k4.setF a4 u5 rfl ⟨a3.ok.id,hx,a3.ok.first⟩
   have q5:Keeps TF h4 h5:=Keeps.upd u5 a4.m rfl rfl
   refine ⟨rfl,q3.trans (q4.trans q5),?_⟩
   have e:({ f3 with p:=x,torn:=false }:Fr)=f.put x:=by
     unfold Fr.put at e3 ⊢
     cases f3;simp_all
   simp only [List.set_set,e] at k5
   exact k5
 refine fV_ld a.m (by kernel_rfl) (w:=.bool f.dirty) (by rw [List.singleton_append,get_fr a.hf];rfl) ?_
 refine bindS_mk (show aUn .not (.bool f.dirty)=some (.bool (!f.dirty)) from rfl) ?_
 refine i_split (fun g=>?_) (fun g=>?_)
 · have g:f.dirty=false:=by simpa using g
   refine fV_ld f2 (by kernel_rfl) (w:=.agg (bytesV x)) rfl ?_
   refine callS (lsnP hx h2) ?_
   refine fV_nil ?_
   refine fS_fa (by kernel_rfl) ?_
   refine bindE (st_at a.m (by kernel_rfl) (w:=.bool f.dirty) (by rw [List.singleton_append,get_fr a.hf];rfl) (by kernel_rfl) (by rw [List.singleton_append];exact set_fr (f':={ f with dirty:=true }) a.hf rfl)) fun h3 u3=>?_
   obtain ⟨k3,a3⟩:=k2.setF a u3 rfl ⟨a.ok.id,a.ok.p,a.ok.first⟩
   have q3:Keeps TF h2 h3:=Keeps.upd u3 a.m rfl rfl
   refine fV_nil ?_
   refine fS_fa (by kernel_rfl) ?_
   refine bindE (st_at a3.m (by kernel_rfl) (w:=.int .u64 f.first) (by rw [List.singleton_append,get_fr a3.hf];rfl) (by kernel_rfl) (by rw [List.singleton_append];exact set_fr (f':={ f with dirty:=true,first:=getW x 7 8 }) a3.hf rfl)) fun h4 u4=>?_
   obtain ⟨k4,a4⟩:=k3.setF a3 u4 rfl ⟨a.ok.id,a.ok.p,hl⟩
   have q4:Keeps TF h3 h4:=Keeps.upd u4 a3.m rfl rfl
   have e:({ c with fr:=(c.fr.set j { f with dirty:=true }).set j { f with dirty:=true,first:=getW x 7 8 } }:Ca)={ c with fr:=c.fr.set j { f with dirty:=true,first:=getW x 7 8 } }:=by rw [List.set_set]
   have k4:CaB h4 p n lv { c with fr:=c.fr.set j { f with dirty:=true,first:=getW x 7 8 } }:=e▸k4
   have a4:AtB h4 lv { c with fr:=c.fr.set j { f with dirty:=true,first:=getW x 7 8 } } i j r { f with dirty:=true,first:=getW x 7 8 }:=e▸a4
   have qq:Keeps TF h2 h4:=q3.trans q4
   exact Meet.of (rest h4 _ (((q1.trans q2).sub rfl).trans qq) k4 a4 rfl rfl (by unfold Fr.put;simp [g]) (qq.at f2 (by omega) rfl) (by have:=qq.next;omega))
 · have g:f.dirty=true:=by simpa using g
   have e:c.fr.set j f=c.fr:=by
     have:=a.hf
     apply List.ext_getElem?
     intro m
     rw [List.getElem?_set]
     split
     · rename_i e;subst e;rw [if_pos a.lt,this]
     · rfl
   have e2:({ c with fr:=c.fr.set j f }:Ca)=c:=by rw [e]
   exact Meet.of (rest h2 f ((q1.trans q2).sub rfl) (by rw [e2];exact k2) (by rw [e2];exact a) rfl g (by unfold Fr.put;simp [g]) f2 (by omega))
end
end Go.Proofs.Ytdfgfbammkojoaa.Sh
namespace Go.Proofs.Ytdfgfbammkojoaa.Sh
open Go Go.Ab Go.RowKit
open Go.Proofs.Ytdfgfbammkojoaa.Ru (Pg okP)
set_option maxRecDepth 10000
set_option maxHeartbeats 4000000
set_option linter.unusedSectionVars false
def Ca.place (c:Ca) (i:Pid):Int:=if i.1 then ((2 + c.pages + i.2:Nat):Int) else ((2 + i.2:Nat):Int)
theorem placeP (g:Nat) (hg:g < 1000) (i:Pid) (hi:i.2 < 65536) (h:AH):ACalls Pg 37 [.int .i64 g,pV i] h (pureE (.int .i64 (if i.1 then ((2 + g + i.2:Nat):Int) else ((2 + i.2:Nat):Int))) h):=by
 refine acalls_forget rfl ?_
 show ACalls Pg 37 _ h (EndsO _ h)
 refine C37 _ _ _ _ ?_
 refine bindE (new_at (shP i)) fun h1 u1=>?_
 have f1:=u1.at_
 have fr:∀ q,q < h.next→h1.m q=h.m q:=fun q hq=>u1.other q hq
 obtain ⟨iu,ino⟩:=i
 have hi:ino < 65536:=hi
 refine fS_fa (by kernel_rfl) ?_
 refine fV_ld f1 (by kernel_rfl) (w:=.bool iu) rfl ?_
 cases iu with
 | true =>
   refine i_t ?_
   refine fS_add_i64 (by omega) (by omega) ?_
   refine fS_fa (by kernel_rfl) ?_
   refine fV_ld f1 (by kernel_rfl) (w:=.int .u16 ino) rfl ?_
   refine fS_cv_i64 (by decide +kernel) (by omega) (by omega) ?_
   refine fS_add_i64 (by omega) (by omega) ?_
   refine ⟨?_,fr⟩
   rw [if_pos rfl]
   congr 2
 | false =>
   refine i_f ?_
   refine Meet.of (cast_p (Jz3z_eq ..) ?_)
   refine fS_fa (by kernel_rfl) ?_
   refine fV_ld f1 (by kernel_rfl) (w:=.int .u16 ino) rfl ?_
   refine fS_cv_i64 (by decide +kernel) (by omega) (by omega) ?_
   refine fS_add_i64 (by omega) (by omega) ?_
   refine ⟨?_,fr⟩
   rw [if_neg (by simp)]
   congr 2
noncomputable def loadP (rt:List UInt8→Bool) (bl b:List UInt8):List UInt8 × Bool:=open Classical in if okA b∧rt (plA b 4)=true then (plA b 4,false) else (bl,true)
def Ca.hold (c:Ca) (j:Nat):Ca:={ c with ck:={ c.ck with seen:=c.ck.seen.set j true,pins:=c.ck.pins.set j (c.ck.pins.getD j 0 + 1) } }
def Ca.wipe (c:Ca) (j:Nat):Ca:={ c with ck:={ c.ck with seen:=c.ck.seen.set j false,cold:=c.ck.cold.set j false } }
def Ca.more (c:Ca) (d:Dk) (i:Pid) (x:List UInt8 × Bool):Ca:=(({ c with dk:=d,fr:=c.fr++[⟨i,x.1,false,0,x.2⟩],at_:=kset c.at_ i c.fr.length }:Ca).wipe c.fr.length).hold c.fr.length
noncomputable def Ca.fetchN (rt:List UInt8→Bool) (bl:List UInt8) (c:Ca) (i:Pid):(List UInt8 × Int) × Ca :=
 if c.isF i then match kget c.at_ i with
   | some j=>(((c.frame j).p,0),c.hold j)
   | none =>
     if (c.dk.read (c.place i)).2.1=0 then (((loadP rt bl (c.dk.read (c.place i)).1).1,0),c.more (c.dk.read (c.place i)).2.2 i (loadP rt bl (c.dk.read (c.place i)).1))
     else ((zer 224,(c.dk.read (c.place i)).2.1),{ c with dk:=(c.dk.read (c.place i)).2.2 })
 else ((zer 224,1),c)
def fetV (x:List UInt8 × Int):V:=.tup [.agg (bytesV x.1),.int .i64 x.2]
structure CaM (h:AH) (p:Nat) (n:CaN) (lv:V) (c:Ca):Prop where
 cache:h.m p=some (.cells true (.one 99) (caV c n lv))
 frs:RwB 102 h lv (c.fr.map frV)
 at_:h.m n.m=some (.mp 29 3 (kmV pV iV c.at_))
 dk:DkA h n.d c.dk
 lg:LgA h n.l c.lg
 ck:CkA h n.k n.s n.c n.q c.ck
 o:p < h.next∧n.m < h.next
 lgd:c.lg.d=n.d
theorem bPay0:aBuild Pg 31 []=some (.agg (bytesV (zer 224))):=by kernel_rfl
theorem bFr0:aBuild Pg 102 []=some (frV zFr):=by kernel_rfl
theorem bldFr (i:Pid) {x:List UInt8} (hx:x.length=224) (t:Bool):aBuild Pg 102 [(0,pV i),(1,.agg (bytesV x)),(4,.bool t)]=some (frV ⟨i,x,false,0,t⟩):=by
 have h1:=shP i
 have h2:=shPay hx
 refine bld_struct [29,31,4,42,4] zeroFr (by kernel_rfl) ?_
 have h3:hasShape Pg (.bool t) 4=true:=by kernel_rfl
 simp [putParts,h1,h2,h3,zFr]
section
variable {h:AH} {p:Nat} {n:CaN} {lv:V} {c:Ca}
theorem CaB.toM (k:CaB h p n lv c):CaM h p n lv c:=⟨k.cache,k.frs,k.at_,k.dk,k.lg,k.ck,k.o,k.lgd⟩
theorem CaM.toB (k:CaM h p n lv c) (o:c.ok):CaB h p n lv c:=⟨k.cache,k.frs,k.at_,k.dk,k.lg,k.ck,k.o,k.lgd,o⟩
theorem CaM.keep {T:Tags} {h':AH} (k:CaM h p n lv c) (q:Keeps T h h') (ht:outT TCa T=true):CaM h' p n lv c:=by
 obtain ⟨k1,k2,k3,k4,k5,k6,⟨o1,o2⟩,e⟩:=k
 have:=q.next
 exact ⟨q.at k1 o1 (outT_at ht rfl),k2.keep q (outT_at ht rfl),q.at k3 o2 (outT_at ht rfl),k4.keep q (outT_at ht rfl) (outT_at ht rfl) (outT_at ht rfl) (outT_at ht rfl),
   k5.keep q (outT_at ht rfl) (outT_at ht rfl) (outT_at ht rfl),k6.keep q (outT_at ht rfl) (outT_at ht rfl) (outT_at ht rfl),⟨by omega,by omega⟩,e⟩
theorem CaM.clock {T:Tags} {h':AH} {ck':Ck} (k:CaM h p n lv c) (q:Keeps T h h') (ht:outT [(0,99,0),(1,102,0),(2,29,3),(0,119,0),(2,121,122),(1,125,0),(2,3,4),(0,89,0),(1,160,0),(1,172,0)] T=true) (a:CkA h' n.k n.s n.c n.q ck') :
   CaM h' p n lv { c with ck:=ck' }:=by
 obtain ⟨k1,k2,k3,k4,k5,k6,⟨o1,o2⟩,e⟩:=k
 have:=q.next
 exact ⟨q.at k1 o1 (outT_at ht rfl),k2.keep q (outT_at ht rfl),q.at k3 o2 (outT_at ht rfl),k4.keep q (outT_at ht rfl) (outT_at ht rfl) (outT_at ht rfl) (outT_at ht rfl),
   k5.keep q (outT_at ht rfl) (outT_at ht rfl) (outT_at ht rfl),a,⟨by omega,by omega⟩,e⟩
theorem hold_n (c:Ca) (j:Nat):(c.hold j).ck.n=c.ck.n:=by unfold Ca.hold Ck.n;simp
theorem wipe_n (c:Ca) (j:Nat):(c.wipe j).ck.n=c.ck.n:=rfl
theorem Ca.ok.same {c c':Ca} (o:c.ok) (h1:c'.pages=c.pages) (h2:c'.undo=c.undo) (h3:c'.most=c.most) (h4:c'.fr=c.fr) (h5:c'.at_=c.at_) (h6:c'.ck.n=c.ck.n) (h7:c'.dk.n=c.dk.n):c'.ok:=by
 obtain ⟨a1,a2,a3,a4,a5,a6,a7,a8,a9⟩:=o
 refine ⟨by rw [h1];exact a1,by rw [h2];exact a2,by rw [h3,h6];exact a3,by rw [h3,h4];exact a4,by rw [h4];exact a5,fun f hf=>?_,by rw [h4,h5];exact a7,by rw [h5];exact a8,by rw [h1,h2,h7];exact a9⟩
 rw [h4] at hf
 have:=a6 f hf
 unfold Ca.isF at this ⊢
 rw [h1,h2];exact this
theorem read_len (d:Dk) (hd:SmOk d.seen) (b:Int):(d.read b).1.length=256:=by
 unfold Dk.read
 split
 · exact zer_len 256
 · split
   · exact zer_len 256
   · split
     · exact zer_len 256
     · exact blkAt_len hd _
theorem loadP_len {rt:List UInt8→Bool} {bl b:List UInt8} (hb:b.length=256) (hbl:bl.length=224):(loadP rt bl b).1.length=224:=by
 unfold loadP
 split
 · exact plA_len hb (Nat.le_refl 4)
 · exact hbl
theorem Ca.more_ok {c:Ca} (o:c.ok) {d:Dk} {i:Pid} {x:List UInt8 × Bool} (hd:d.n=c.dk.n) (hi:c.isF i) (hi2:i.2 < 65536) (hk:kget c.at_ i=none) (hl:c.fr.length < c.most) (hx:x.1.length=224):(c.more d i x).ok:=by
 obtain ⟨a1,a2,a3,a4,a5,a6,a7,a8,a9⟩:=o
 refine ⟨a1,a2,⟨?_,a3.2⟩,?_,?_,?_,?_,kuniq_set a8 _ _,?_⟩
 · show (Ca.hold _ _).ck.n=_
   rw [hold_n,wipe_n];exact a3.1
 · show (c.fr++[_]).length≤c.most
   rw [List.length_append];exact hl
 · intro f hf
   rcases List.mem_append.1 hf with y | y
   · exact a5 f y
   · rw [List.mem_singleton] at y;subst y;exact ⟨hi2,hx,by show 0 < _;omega⟩
 · intro f hf
   rcases List.mem_append.1 hf with y | y
   · exact a6 f y
   · rw [List.mem_singleton] at y;subst y;exact hi
 · intro k y
   show kget (kset c.at_ i c.fr.length) k=some y↔(c.fr++[(⟨i,x.1,false,0,x.2⟩:Fr)])[y]?.map Fr.id=some k
   rw [kget_set]
   rcases Nat.lt_trichotomy y c.fr.length with g | g | g
   · rw [List.getElem?_append_left g,← a7]
     by_cases e:i=k
     · subst e
       rw [if_pos rfl,hk]
       simp;omega
     · rw [if_neg e]
   · subst g
     rw [List.getElem?_append_right (Nat.le_refl _),Nat.sub_self]
     by_cases e:i=k
     · subst e
       rw [if_pos rfl]
       simp
     · rw [if_neg e]
       have:¬ kget c.at_ k=some c.fr.length:=fun q=>by
         have:=(a7 _ _).1 q
         rw [List.getElem?_eq_none (Nat.le_refl _)] at this;cases this
       simp [this,e]
   · have:(c.fr++[(⟨i,x.1,false,0,x.2⟩:Fr)])[y]?=none:=List.getElem?_eq_none (by simp;omega)
     rw [this]
     by_cases e:i=k
     · rw [if_pos e];simp;omega
     · rw [if_neg e]
       have:¬ kget c.at_ k=some y:=fun q=>by
         have:=(a7 _ _).1 q
         rw [List.getElem?_eq_none (by omega)] at this;cases this
       simp [this]
 · show 2 + c.pages + c.undo≤d.n
   rw [hd];exact a9
theorem fetEnd {Q:AEnd→AH→Prop} {n3:Nat} {w:V} {x:List UInt8} {e:Int} (f3:h.m n3=some (.cells true (.one 31) w)) (hx:x.length=224) (k:∀ h',Upd h h' n3 (.cells true (.one 31) (.agg (bytesV x)))→Q (.ret (.tup [.agg (bytesV x),.int .i64 e])) h') :
   bindV (aStoreV Pg h 31 (paB n3) (.agg (bytesV x))) fun _ h1=>bindR (aRes Pg [(4,paB n3),(5,.int .i64 e)] h1 R10) fun v=>Q (.ret v) h1:=by
 refine bindE (st_at (p:=[]) f3 (by kernel_rfl) rfl (shPay hx) rfl) fun h1 u1=>?_
 have e1:=ld_mk (P:=Pg) (t:=31) (p:=[]) u1.at_ (by kernel_rfl) (w:=.agg (bytesV x)) rfl
 simp only [aLoadV] at e1
 have e2:=(still_some e1).1
 refine bindR_mk (show aRes Pg _ _ R10=some [.agg (bytesV x),.int .i64 e] by simp [R10,aRes,Env.get,e2]) ?_
 exact k h1 u1
abbrev TFe:Tags:=[(0,99,0),(1,102,0),(2,29,3),(0,119,0),(1,4,0),(1,3,0)]
variable {rt:List UInt8→Bool} {bl:List UInt8} {i:Pid}
theorem fetFill {n1 n3 n5:Nat} {h0:AH} {x:List UInt8} {t:Bool} {c:Ca} {w:V} (k:CaM h p n lv c) (q:Keeps TFe h0 h) (o:n1 < h.next∧h0.next≤n3∧n3 < h.next∧n5 < h.next∧n3≠n5) {j:Nat} (hj:j < c.fr.length) (hjn:j < c.ck.n) (hx:x.length=224) (hp:c.ck.pins.getD j 0 < 1000000)
   (f1:h.m n1=some (.cells true (.one 29) (pV i))) (f3:h.m n3=some (.cells true (.one 31) w)) (f5:h.m n5=some (.cells true (.one 31) (.agg (bytesV x)))) {v:V} {c':Ca} (hv:v=fetV (x,0)) (hc:c'=(({ c with fr:=c.fr.set j ⟨i,x,false,0,t⟩,at_:=kset c.at_ i j }:Ca).wipe j).hold j) (ok:c'.ok) :
   Jz29 (Gives TFe h0 v fun h'=>CaA h' p n c') (caP p) (.ptr (some ⟨n1,.one 29,[]⟩)) (paB n3) (.int .i64 (j:Int)) (paB n5) (.bool t) h:=by
 subst hv
 rw [Jz29_eq]
 have f0:=k.cache
 rcases k.frs with ⟨e1,e2⟩ | ⟨r,r1,r2,r3⟩
 · have:(c.fr.map frV).length=0:=by rw [e2];rfl
   rw [List.length_map] at this;omega
 have hlen:(c.fr.map frV).length=c.fr.length:=List.length_map ..
 refine fW_nil ?_
 refine fO_fa (by kernel_rfl) ?_
 refine fW_ld f0 (by kernel_rfl) (w:=lv) rfl ?_
 refine fW_ld f1 (by kernel_rfl) (w:=pV i) rfl ?_
 refine fW_ld f5 (by kernel_rfl) (w:=.agg (bytesV x)) rfl ?_
 refine bindSO_mk (bldFr i hx t) ?_
 rw [r2]
 refine bindSO_mk (ia_slc _ (by kernel_rfl) (by omega) (by omega)) ?_
 obtain ⟨f,hf⟩:∃ f,c.fr[j]?=some f:=⟨_,List.getElem?_eq_getElem hj⟩
 have ej:0 + ((j:Nat):Int).toNat=j:=at_nat j
 rw [ej]
 refine bindE (st_at r3 (by kernel_rfl) (w:=frV f) (by rw [get_fr hf];rfl) (shFr (f:=⟨i,x,false,0,t⟩) hx) (set_fr (f':=⟨i,x,false,0,t⟩) hf rfl)) fun h4 u4=>?_
 have q4:Keeps TF h h4:=Keeps.upd u4 r3 rfl rfl
 have n4:=q4.next
 refine fW_nil ?_
 refine fO_fa (by kernel_rfl) ?_
 refine fW_ld (q4.at f0 k.o.1 rfl) (by kernel_rfl) (w:=.map (some n.m)) rfl ?_
 refine fW_ld (q4.at f1 o.1 rfl) (by kernel_rfl) (w:=pV i) rfl ?_
 refine bindE (kSet beqP mpAt (q4.at k.at_ k.o.2 rfl) (shP i) (s:=j) (shI j)) fun h5 u5=>?_
 have q5:Keeps [(2,29,3)] h4 h5:=Keeps.upd u5 (q4.at k.at_ k.o.2 rfl) rfl rfl
 have n5':=q5.next
 have qq:Keeps [(1,102,0),(2,29,3)] h h5:=(q4.sub rfl).trans (q5.sub rfl)
 have k5:CaM h5 p n lv { c with fr:=c.fr.set j ⟨i,x,false,0,t⟩,at_:=kset c.at_ i j }:=by
   refine ⟨qq.at f0 k.o.1 rfl,.inr ⟨r,by omega,?_,q5.at u4.at_ (by omega) rfl⟩,u5.at_,k.dk.keep qq rfl rfl rfl rfl,k.lg.keep qq rfl rfl rfl,k.ck.keep qq rfl rfl rfl,⟨by have:=k.o.1;omega,by have:=k.o.2;omega⟩,k.lgd⟩
   rw [r2];simp
 refine fV_nil ?_
 refine fS_fa (by kernel_rfl) ?_
 refine fV_ld k5.cache (by kernel_rfl) (w:=ckP n.k) rfl ?_
 refine callG (ckClear k5.ck hjn) fun h6 q6 k6=>?_
 have n6:=q6.next
 have m6:=k5.clock q6 rfl k6
 refine fV_nil ?_
 refine fS_fa (by kernel_rfl) ?_
 refine fV_ld m6.cache (by kernel_rfl) (w:=ckP n.k) rfl ?_
 refine callG (ckTouch m6.ck (by exact hjn)) fun h7 q7 k7=>?_
 have n7:=q7.next
 have m7:=m6.clock q7 rfl k7
 refine fV_nil ?_
 refine fS_fa (by kernel_rfl) ?_
 refine fV_ld m7.cache (by kernel_rfl) (w:=ckP n.k) rfl ?_
 refine callG (ckPin m7.ck (by exact hjn) hp) fun h8 q8 k8=>?_
 have n8:=q8.next
 have m8:=m7.clock q8 rfl k8
 have q58:Keeps [(1,4,0),(1,3,0)] h5 h8:=(q6.sub rfl).trans ((q7.sub rfl).trans (q8.sub rfl))
 have q08:Keeps TFe h h8:=(qq.sub rfl).trans (q58.sub rfl)
 refine fV_ld (q58.at (qq.at f5 o.2.2.2.1 rfl) (by omega) rfl) (by kernel_rfl) (w:=.agg (bytesV x)) rfl ?_
 refine fetEnd (q58.at (qq.at f3 o.2.2.1 rfl) (by omega) rfl) hx fun h9 u9=>?_
 have q9:Keeps [(0,31,0)] h8 h9:=Keeps.upd u9 (q58.at (qq.at f3 o.2.2.1 rfl) (by omega) rfl) rfl rfl
 subst hc
 exact ⟨rfl,(q.trans q08).young u9 o.2.1,lv,CaM.toB (m8.keep q9 rfl) ok⟩
theorem okA_open {b:List UInt8} (g:okA b):openV b=.tup [.int .u64 (stA b 0),.agg (bytesV (plA b 4)),.bool true]:=by unfold openV;rw [if_pos g]
theorem okA_not {b:List UInt8} (g:¬ okA b):openV b=.tup [.int .u64 0,.agg (bytesV (zer 224)),.bool false]:=by unfold openV;rw [if_neg g]
theorem fetLoad {n1 n3 n4:Nat} {h0:AH} {b:List UInt8} {c:Ca} {w:V} (k:CaM h p n lv c) (q:Keeps TFe h0 h) (o:n1 < h.next∧h0.next≤n3∧n3 < h.next) {j:Nat} (hj:j < c.fr.length) (hjn:j < c.ck.n) (hb:b.length=256) (hp:c.ck.pins.getD j 0 < 1000000)
   (hR:∀ p h,p.length=224→ACalls Pg 39 [pV i,.agg (bytesV p)] h (pureE (.bool (rt p)) h)) (hB:∀ h,ACalls Pg 16 [pV i] h (pureE (.agg (bytesV bl)) h)) (hbl:bl.length=224)
   (f1:h.m n1=some (.cells true (.one 29) (pV i))) (f3:h.m n3=some (.cells true (.one 31) w)) (f4:h.m n4=some (.cells true (.one 56) (.agg (bytesV b)))) {v:V} {c':Ca} (hv:v=fetV ((loadP rt bl b).1,0)) (hc:c'=(({ c with fr:=c.fr.set j ⟨i,(loadP rt bl b).1,false,0,(loadP rt bl b).2⟩,at_:=kset c.at_ i j }:Ca).wipe j).hold j) (ok:c'.ok) :
   Jz27 (Gives TFe h0 v fun h'=>CaA h' p n c') (caP p) (.ptr (some ⟨n1,.one 29,[]⟩)) (paB n3) (.int .i64 (j:Int)) (.ptr (some ⟨n4,.one 56,[]⟩)) h:=by
 rw [Jz27_eq]
 refine fV_ld f4 (by kernel_rfl) (w:=.agg (bytesV b)) rfl ?_
 refine callS (openP hb h) ?_
 -- a frame that is torn
 have torn:∀ (h':AH) (n5:Nat) (w':V),CaM h' p n lv c→Keeps TFe h0 h'→n1 < h'.next→n3 < h'.next→n5 < h'.next→n3≠n5→h'.m n1=some (.cells true (.one 29) (pV i))→h'.m n3=some (.cells true (.one 31) w)→h'.m n5=some (.cells true (.one 31) w')→h0.next≤n5→loadP rt bl b=(bl,true) →
     Jz28 (Gives TFe h0 v fun h'=>CaA h' p n c') (caP p) (.ptr (some ⟨n1,.one 29,[]⟩)) (paB n3) (.int .i64 (j:Int)) (paB n5) (.bool true) h':=by
   intro h' n5 w' k' q' o1 o3 o5 ne g1 g3 g5 hy e
   rw [Jz28_eq]
   refine i_t ?_
   refine fV_ld g1 (by kernel_rfl) (w:=pV i) rfl ?_
   refine callS (hB h') ?_
   refine bindE (st_at (p:=[]) g5 (by kernel_rfl) rfl (shPay hbl) rfl) fun h6 u6=>?_
   have q6:Keeps [(0,31,0)] h' h6:=Keeps.upd u6 g5 rfl rfl
   have n6:=q6.next
   exact Meet.of (fetFill (w:=w) (k'.keep q6 rfl) (q'.young u6 hy) ⟨by omega,o.2.1,by omega,by omega,ne⟩ hj hjn hbl hp (q6.at g1 o1 rfl) ((u6.other _ ne).trans g3) u6.at_ (by rw [hv,e]) (by rw [hc,e]) ok)
 by_cases g:okA b
 · rw [okA_open g]
   have hpl:(plA b 4).length=224:=plA_len hb (Nat.le_refl 4)
   refine bindS_mk (show aExtract (.tup [_,_,_]) 0=some _ from rfl) ?_
   refine bindS_mk (show aExtract (.tup [_,_,_]) 1=some _ from rfl) ?_
   refine bindS_mk (show aExtract (.tup [_,_,_]) 2=some _ from rfl) ?_
   refine bindE (al_at zPay (shPay (zer_len 224))) fun h5 u5=>?_
   have n5:=u5.next
   refine bindE (st_at (p:=[]) u5.at_ (by kernel_rfl) rfl (shPay hpl) rfl) fun h6 u6=>?_
   have q5:Keeps [] h h5:=Keeps.new u5
   have q6:Keeps [] h h6:=q5.young u6 (Nat.le_refl _)
   have n6:=u6.next
   have g1:=q6.at f1 o.1 rfl
   have k6:=k.keep q6 rfl
   refine fS_nt ?_
   refine g_ff ?_
   refine fV_ld g1 (by kernel_rfl) (w:=pV i) rfl ?_
   refine fV_ld u6.at_ (by kernel_rfl) (w:=.agg (bytesV (plA b 4))) rfl ?_
   refine callS (hR _ h6 hpl) ?_
   have:=q.next
   have g3:=q6.at f3 o.2.2 rfl
   have qq:=q.trans (q6.sub (T':=TFe) rfl)
   cases hr:rt (plA b 4) with
   | true =>
     have e:loadP rt bl b=(plA b 4,false):=by unfold loadP;rw [if_pos ⟨g,hr⟩]
     refine fS_nt ?_
     refine Meet.of (cast_p (Gz0_eq ..) ?_)
     refine fV_pf ?_
     refine Meet.of (cast_p (Jz28_eq ..) ?_)
     refine i_f ?_
     exact Meet.of (fetFill (w:=w) k6 qq ⟨by omega,o.2.1,by omega,by omega,by omega⟩ hj hjn hpl hp g1 g3 u6.at_ (by rw [hv,e]) (by rw [hc,e]) ok)
   | false =>
     have e:loadP rt bl b=(bl,true):=by unfold loadP;rw [if_neg (fun x=>by rw [hr] at x;cases x.2)]
     refine fS_nf ?_
     refine Meet.of (cast_p (Gz0_eq ..) ?_)
     refine fV_pf ?_
     exact Meet.of (torn h6 h.next _ k6 qq (by omega) (by omega) (by omega) (by omega) g1 g3 u6.at_ (by omega) e)
 · rw [okA_not g]
   refine bindS_mk (show aExtract (.tup [_,_,_]) 0=some _ from rfl) ?_
   refine bindS_mk (show aExtract (.tup [_,_,_]) 1=some _ from rfl) ?_
   refine bindS_mk (show aExtract (.tup [_,_,_]) 2=some _ from rfl) ?_
   refine bindE (al_at zPay (shPay (zer_len 224))) fun h5 u5=>?_
   have n5:=u5.next
   refine bindE (st_at (p:=[]) u5.at_ (by kernel_rfl) rfl (shPay (zer_len 224)) rfl) fun h6 u6=>?_
   have q5:Keeps [] h h5:=Keeps.new u5
   have q6:Keeps [] h h6:=q5.young u6 (Nat.le_refl _)
   have n6:=u6.next
   have g1:=q6.at f1 o.1 rfl
   have k6:=k.keep q6 rfl
   have:=q.next
   have g3:=q6.at f3 o.2.2 rfl
   have qq:=q.trans (q6.sub (T':=TFe) rfl)
   have e:loadP rt bl b=(bl,true):=by unfold loadP;rw [if_neg (fun x=>g x.1)]
   refine fS_nf ?_
   refine g_tf ?_
   refine Meet.of (cast_p (Gz0_eq ..) ?_)
   refine fV_pt ?_
   exact Meet.of (torn h6 h.next _ k6 qq (by omega) (by omega) (by omega) (by omega) g1 g3 u6.at_ (by omega) e)
theorem Ca.hold_ok {c:Ca} (o:c.ok) (j:Nat):(c.hold j).ok:=o.same rfl rfl rfl rfl rfl (hold_n c j) rfl
theorem pins_at {c:Ck} (hp:∀ x∈c.pins,x < 1000000) {j:Nat} (hj:j < c.n):c.pins.getD j 0 < 1000000:=hp _ (getD_mem' hj)
theorem caFetchN (k:CaB h p n lv c) (own:OwnAll h) (hi:i.2 < 65536) (ho:c.dk.ops < 1000000000000) (hp:∀ x∈c.ck.pins,x < 1000000) (hnf:kget c.at_ i=none→c.fr.length < c.most)
   (hR:∀ p h,p.length=224→ACalls Pg 39 [pV i,.agg (bytesV p)] h (pureE (.bool (rt p)) h)) (hB:∀ h,ACalls Pg 16 [pV i] h (pureE (.agg (bytesV bl)) h)) (hbl:bl.length=224) :
   ACalls Pg 10 [caP p,pV i] h (Gives TFe h (fetV (c.fetchN rt bl i).1) fun h'=>CaA h' p n (c.fetchN rt bl i).2):=by
 refine C10 _ _ _ _ ?_
 refine bindE (new_at (shP i)) fun h1 u1=>?_
 have n1:=u1.next
 have q1:Keeps [] h h1:=Keeps.new u1
 refine bindE (al_at zPay (shPay (zer_len 224))) fun h2 u2=>?_
 have n2:=u2.next
 have q2:Keeps [] h1 h2:=Keeps.new u2
 have f1:=q2.at u1.at_ (by omega) rfl
 have f3:=u2.at_
 have q12:=q1.trans q2
 have k2:=k.keep q12 rfl
 refine fV_ld f1 (by kernel_rfl) (w:=pV i) rfl ?_
 refine callS (caIs k2 i hi) ?_
 by_cases g:c.isF i
 case neg =>
   rw [decide_eq_false g]
   refine fS_nf ?_
   refine i_t ?_
   refine bindS_mk bPay0 ?_
   refine fetEnd f3 (zer_len 224) fun h3 u3=>?_
   have e:c.fetchN rt bl i=((zer 224,1),c):=by unfold Ca.fetchN;rw [if_neg g]
   rw [e]
   exact ⟨rfl,(q1.sub rfl).trans ((Keeps.new (T:=TFe) u2).young u3 (by omega)),lv,k2.keep (T:=[(0,31,0)]) (Keeps.upd u3 f3 rfl rfl) rfl⟩
 rw [decide_eq_true g]
 refine fS_nt ?_
 refine i_f ?_
 refine Meet.of (cast_p (Jz22_eq ..) ?_)
 refine fV_ld f1 (by kernel_rfl) (w:=pV i) rfl ?_
 refine callS (caFind k2 i) ?_
 cases hk:kget c.at_ i with
 | some j =>
   have e:c.fetchN rt bl i=(((c.frame j).p,0),c.hold j):=by unfold Ca.fetchN;rw [if_pos g,hk]
   rw [e]
   obtain ⟨r,f,a⟩:=k2.at hk
   rw [a.find,a.frame]
   refine fS_e0 ?_
   refine fS_e1 ?_
   refine bindS_mk (show aBin Pg .neq 90 (.ptr (some _)) (.ptr none) true=some (.bool true) by kernel_rfl) ?_
   refine i_t ?_
   refine fV_nil ?_
   refine fS_fa (by kernel_rfl) ?_
   refine fV_ld k2.cache (by kernel_rfl) (w:=ckP n.k) rfl ?_
   refine callG (ckTouch k2.ck a.jn) fun h7 q7 k7=>?_
   have n7:=q7.next
   have m7:=k2.toM.clock q7 rfl k7
   refine fV_nil ?_
   refine fS_fa (by kernel_rfl) ?_
   refine fV_ld m7.cache (by kernel_rfl) (w:=ckP n.k) rfl ?_
   refine callG (ckPin m7.ck a.jn (pins_at hp a.jn)) fun h8 q8 k8=>?_
   have n8:=q8.next
   have m8:=m7.clock q8 rfl k8
   have q58:Keeps [(1,4,0),(1,3,0)] h2 h8:=(q7.sub rfl).trans (q8.sub rfl)
   refine fV_nil ?_
   refine fS_fa (by kernel_rfl) ?_
   refine fV_ld (q58.at a.m a.hr rfl) (by kernel_rfl) (w:=.agg (bytesV f.p)) (by rw [List.singleton_append,get_fr a.hf];rfl) ?_
   refine fetEnd (q58.at f3 (by omega) rfl) a.ok.p fun h9 u9=>?_
   have q9:Keeps [(0,31,0)] h8 h9:=Keeps.upd u9 (q58.at f3 (by omega) rfl) rfl rfl
   exact ⟨rfl,(((q12.sub rfl).trans (q58.sub rfl):Keeps TFe h h8)).young u9 (by omega),lv,CaM.toB (m8.keep q9 rfl) (Ca.hold_ok k.ok j)⟩
 | none =>
   refine fS_e0 ?_
   refine fS_e1 ?_
   refine bindS_mk (show aBin Pg .neq 90 (.ptr none) (.ptr none) true=some (.bool false) by kernel_rfl) ?_
   refine i_f ?_
   refine Meet.of (cast_p (Jz23_eq ..) ?_)
   have hl:=hnf hk
   have f0:=k2.cache
   have hm:=k2.ok.most
   have hpg:=k2.ok.pages
   obtain ⟨sa,es⟩:=k2.frs.shape
   rw [List.length_map] at es
   refine fV_nil ?_
   refine fS_fa (by kernel_rfl) ?_
   refine fV_ld f0 (by kernel_rfl) (w:=lv) rfl ?_
   rw [es]
   refine fV_lenR (by kernel_rfl) ?_
   refine fV_nil ?_
   refine fS_fa (by kernel_rfl) ?_
   refine fV_ld f0 (by kernel_rfl) (w:=.int .i64 c.most) rfl ?_
   refine fS_eql_f (by omega) ?_
   refine i_f ?_
   refine Meet.of (cast_p (Jz25_eq ..) ?_)
   refine fW_nil ?_
   refine fO_fa (by kernel_rfl) ?_
   refine fW_ld f0 (by kernel_rfl) (w:=dkP n.d) rfl ?_
   refine fW_nil ?_
   refine fO_fa (by kernel_rfl) ?_
   refine fW_ld f0 (by kernel_rfl) (w:=.int .i64 c.pages) rfl ?_
   refine fW_ld f1 (by kernel_rfl) (w:=pV i) rfl ?_
   refine ⟨_,placeP c.pages (by omega) i hi h2,?_⟩
   have hlen:=read_len c.dk k2.dk.ok.seen (c.place i)
   have rs:=Dk.read_same c.dk (c.place i)
   refine callG (dkRead k2.dk ho (c.place i)) fun h3 q3 kd3=>?_
   have n3:=q3.next
   have k3:CaB h3 p n lv { c with dk:=(c.dk.read (c.place i)).2.2 }:=k2.parts q3 rfl kd3 (k2.lg.keep q3 rfl rfl rfl) (k2.ck.keep q3 rfl rfl rfl) rs.2.2.2.2 rfl rfl
   have o3:OwnAll h3:=q3.own (q12.own own)
   have g1:=q3.at f1 (by omega) rfl
   have g3:=q3.at f3 (by omega) rfl
   have q03:Keeps TFe h h3:=(q12.sub rfl).trans (q3.sub rfl)
   generalize hrd:c.dk.read (c.place i)=rd at *
   refine bindSO_mk (show aExtract (rdR rd) 0=some (.agg (bytesV rd.1)) from rfl) ?_
   refine bindSO_mk (show aExtract (rdR rd) 1=some (.int .i64 rd.2.1) from rfl) ?_
   refine flo_mk zBlk (shBlk (zer_len 256)) (old_bytes _ _) o3 ?_
   have u4:=new_make h3 (.cells true (.one 56) (.agg (bytesV (zer 256))))
   generalize h3.make (.cells true (.one 56) (.agg (bytesV (zer 256))))=h4 at u4 ⊢
   have q4:Keeps [] h3 h4:=Keeps.new u4
   have n4:=u4.next
   refine bindE (st_at (p:=[]) u4.at_ (by kernel_rfl) rfl (shBlk hlen) rfl) fun h5 u5=>?_
   have q5:Keeps [] h3 h5:=q4.young u5 (Nat.le_refl _)
   have n5:=u5.next
   have k5:=k3.keep q5 rfl
   have j1:=q5.at g1 (by omega) rfl
   have j3:=q5.at g3 (by omega) rfl
   have f4:=u5.at_
   have q05:Keeps TFe h h5:=q03.trans (q5.sub rfl)
   by_cases ee:rd.2.1=0
   case neg =>
     have e:c.fetchN rt bl i=((zer 224,rd.2.1),{ c with dk:=rd.2.2 }):=by unfold Ca.fetchN;rw [if_pos g,hk,hrd];simp only [if_neg ee]
     rw [e]
     refine fS_neq_t ee ?_
     refine i_t ?_
     refine bindS_mk bPay0 ?_
     refine fetEnd j3 (zer_len 224) fun h6 u6=>?_
     exact ⟨rfl,q05.young u6 (by omega),lv,k5.keep (T:=[(0,31,0)]) (Keeps.upd u6 j3 rfl rfl) rfl⟩
   have e:c.fetchN rt bl i=(((loadP rt bl rd.1).1,0),c.more rd.2.2 i (loadP rt bl rd.1)):=by unfold Ca.fetchN;rw [if_pos g,hk,hrd];simp only [if_pos ee]
   rw [e]
   refine fS_neq_f ee ?_
   refine i_f ?_
   refine Meet.of (cast_p (Jz26_eq ..) ?_)
   have f05:=k5.cache
   refine fV_nil ?_
   refine fS_fa (by kernel_rfl) ?_
   refine fV_ld f05 (by kernel_rfl) (w:=lv) rfl ?_
   have frs5:=k5.frs
   rw [es] at frs5 f05 ⊢
   refine fV_lenR (by kernel_rfl) ?_
   refine fS_eql_t rfl ?_
   refine i_t ?_
   refine fV_nil ?_
   refine fS_fa (by kernel_rfl) ?_
   refine fV_ld f05 (by kernel_rfl) (w:=.slc sa c.fr.length) rfl ?_
   refine bindS_mk bFr0 ?_
   refine bindE (bs1_at (e:=102) (by kernel_rfl) zeroFr (shFr (f:=zFr) (zer_len 224))) fun h6 u6=>?_
   have q6:Keeps [] h5 h6:=Keeps.new u6
   have n6:=u6.next
   have frs6:=frs5.keep q6 rfl
   have byFr:Pg.bytesOf 102≤1000:=by decide +kernel
   obtain ⟨lv2,h7,e7,frs7,q7⟩:=frs6.app (t:=96) (xt:=96) (by kernel_rfl) (y:=.slc (some (⟨h5.next,.row 102,[]⟩,0)) 1) (elems_row u6.at_) (by simp) (Nat.le_trans (Nat.mul_le_mul (show _≤1000 by rw [List.length_map];show c.fr.length + 1≤_;omega) byFr) (by decide))
   refine bindV_mk e7 ?_
   have n7:=q7.next
   have k6:=k5.keep q6 rfl
   have f07:=q7.at k6.cache k6.o.1 rfl
   rw [es] at f07
   refine fV_nil ?_
   refine fS_fa (by kernel_rfl) ?_
   obtain ⟨sb,eb⟩:=frs7.shape
   have shl:hasShape Pg lv2 96=true:=by rw [eb];kernel_rfl
   refine bindE (st_at f07 (by kernel_rfl) (w:=.slc sa c.fr.length) rfl shl (v':=caV { c with dk:=rd.2.2 } n lv2) rfl) fun h8 u8=>?_
   have q8:Keeps [(0,99,0)] h7 h8:=Keeps.upd u8 f07 rfl rfl
   have n8:=u8.next
   have q58:Keeps [(0,99,0),(1,102,0)] h5 h8:=(q6.sub rfl).trans ((q7.sub rfl).trans (q8.sub rfl))
   have m8:CaM h8 p n lv2 { c with dk:=rd.2.2,fr:=c.fr++[zFr] }:=by
     refine ⟨u8.at_,?_,q58.at k5.at_ k5.o.2 rfl,k5.dk.keep q58 rfl rfl rfl rfl,k5.lg.keep q58 rfl rfl rfl,k5.ck.keep q58 rfl rfl rfl,⟨by have:=k5.o.1;omega,by have:=k5.o.2;omega⟩,k5.lgd⟩
     have:=frs7.keep q8 rfl
     show RwB _ _ _ ((c.fr++[zFr]).map frV)
     rw [List.map_append];exact this
   have ok':(c.more rd.2.2 i (loadP rt bl rd.1)).ok:=Ca.more_ok k.ok rs.2.2.2.2 g hi hk hl (loadP_len hlen hbl)
   refine Meet.of (fetLoad (b:=rd.1) (c:={ c with dk:=rd.2.2,fr:=c.fr++[zFr] }) m8 (q05.trans (q58.sub rfl)) ⟨by omega,by omega,by omega⟩ (j:=c.fr.length) (by show _ < (c.fr++[zFr]).length;simp) (by show c.fr.length < c.ck.n;omega) hlen (pins_at hp (by omega)) hR hB hbl (q58.at j1 (by omega) rfl) (q58.at j3 (by omega) rfl) (q58.at f4 (by omega) rfl) rfl ?_ ok')
   unfold Ca.more
   rw [show (c.fr++[zFr]).set c.fr.length ⟨i,(loadP rt bl rd.1).1,false,0,(loadP rt bl rd.1).2⟩=c.fr++[⟨i,(loadP rt bl rd.1).1,false,0,(loadP rt bl rd.1).2⟩] by rw [List.set_append_right _ _ (Nat.le_refl _),Nat.sub_self];rfl]
end
end Go.Proofs.Ytdfgfbammkojoaa.Sh
namespace Go.Proofs.Ytdfgfbammkojoaa.Sh
open Go Go.Ab Go.RowKit
open Go.Proofs.Ytdfgfbammkojoaa.Ru (Pg okP)
set_option maxRecDepth 100000
noncomputable def B53:Code:=(Try.f53.body).getD .skip
def R53:List ResultVar:=[.cell 4 81,.tmp 5]
abbrev N53:Nat:=14
def K53:KT:=(.seq .leaf (.seq .leaf (.join (.seq .leaf (.two (.seq .leaf .leaf [4,5]) .leaf) [4,6,11]) (.seq .leaf .leaf [4,5]) [4,6]) [1,4,6]) [1,2,4])
def Jz5x (Q:AEnd→AH→Prop) (x4 x6:V) (h:AH):Prop:=vcAt Pg N53 B53 K53 [1,1,1] [] (vcRet Pg R53 Q) [(4,x4),(6,x6)] h
theorem Jz5x_eq (Q:AEnd→AH→Prop) (x4 x6:V) (h:AH):Jz5x Q x4 x6 h=(
 bindV (aLoadV Pg h 81 x6) fun v19 h20 =>
 bindV (aStoreV Pg h20 81 x4 v19) fun _ h22 =>
 bindR (aRes Pg [(4,x4),(5,(V.int .i64 0))] h22 R53) fun v=>Q (.ret v) h22):=by kernel_rfl
theorem S53 (Q:AEnd→AH→Prop) (a0 a1:V) (h:AH):vc Pg N53 B53 K53 (vcRet Pg R53 Q) (initEnv 0 [a0,a1]) h=(
 bindV (aNew Pg h 81 a0) fun v1 h2 =>
 bindV (aAlloc Pg h2 81) fun v3 h4 =>
 bindV (aLoadV Pg h4 81 v1) fun v5 h6 =>
 bindV (aAlloc Pg h6 81) fun v7 h8 =>
 bindV (aStoreV Pg h8 81 v7 v5) fun _ h10 =>
 ACalls Pg 76 [a1,(V.fn (.func 77) [] [v7])] h10 (aEnd (fun v11 h12 =>
 bindV (still (aUn .not v11) h12) fun v13 h14 =>
 vcIf v13 (
 bindV (still (aBuild Pg 81 []) h14) fun v15 h16 =>
 bindV (aStoreV Pg h16 81 v3 v15) fun _ h18 =>
 bindR (aRes Pg [(4,v3),(5,(V.int .i64 2))] h18 R53) fun v=>Q (.ret v) h18) (
 Meet (Jz5x Q v3 v7 h14))) fun v h=>Q (.panic v) h)):=by kernel_rfl
theorem C53 (Q:AEnd→AH→Prop) (a0 a1:V) (h:AH) (c :
 bindV (aNew Pg h 81 a0) fun v1 h2 =>
 bindV (aAlloc Pg h2 81) fun v3 h4 =>
 bindV (aLoadV Pg h4 81 v1) fun v5 h6 =>
 bindV (aAlloc Pg h6 81) fun v7 h8 =>
 bindV (aStoreV Pg h8 81 v7 v5) fun _ h10 =>
 ACalls Pg 76 [a1,(V.fn (.func 77) [] [v7])] h10 (aEnd (fun v11 h12 =>
 bindV (still (aUn .not v11) h12) fun v13 h14 =>
 vcIf v13 (
 bindV (still (aBuild Pg 81 []) h14) fun v15 h16 =>
 bindV (aStoreV Pg h16 81 v3 v15) fun _ h18 =>
 bindR (aRes Pg [(4,v3),(5,(V.int .i64 2))] h18 R53) fun v=>Q (.ret v) h18) (
 Meet (Jz5x Q v3 v7 h14))) fun v h=>Q (.panic v) h)):ACalls Pg 53 [a0,a1] h Q :=
 acalls_of_vc okP Try.func53 (show Try.f53.body=some B53 from by kernel_rfl) K53 (by rw [← S53 Q a0 a1 h] at c;exact c)
noncomputable def B76:Code:=(Try.f76.body).getD .skip
def R76:List ResultVar:=[.tmp 4]
abbrev N76:Nat:=68
def K76:KT:=(.seq .leaf (.seq .leaf (.join (.seq .leaf (.one (.loop (.join (.seq .leaf (.two .leaf .leaf) [0,1,5,6,12]) (.one (.join (.seq .leaf (.two (.seq .leaf .leaf [4]) .leaf) [0,1,5,6,17]) (.seq .leaf (.join (.join (.reg [[0,1,6,7,8,29,32],[0,1,6,7,8,34,38],[0,1,6,7,8,40,47]]) (.two (.seq .leaf .leaf [4]) .leaf) [0,1,6,7,8,48]) (.seq .leaf (.seq .leaf .leaf [0,1,5,6,8]) [0,1,6,7,8]) [0,1,6,7,8]) [0,1,5,6,7,8]) [0,1,5,6])) [0,1,5,6]) [0,1,5,6])) [0,1,5,6]) (.seq .leaf .leaf [4]) []) [0,1,5]) [0,1])
def Jz6r (Q:AEnd→AH→Prop) (n:Nat) (x0 x1 x6 x7 x8:V) (h:AH):Prop:=vcAt Pg N76 B76 K76 [1,1,0,1,0,0,1,0,1,1,1] [n] (vcRet Pg R76 Q) [(0,x0),(1,x1),(6,x6),(7,x7),(8,x8)] h
def Jz6q (Q:AEnd→AH→Prop) (n:Nat) (x0 x1 x6 x7 x8 x48:V) (h:AH):Prop:=vcAt Pg N76 B76 K76 [1,1,0,1,0,0,1,0,1,1,0,1] [n] (vcRet Pg R76 Q) [(0,x0),(1,x1),(6,x6),(7,x7),(8,x8),(48,x48)] h
def Gz20 (Q:AEnd→AH→Prop) (n:Nat) (x0 x1 x6 x7 x8 x40 x47:V) (h:AH):Prop:=segAt Pg N76 B76 K76 [1,1,0,1,0,0,1,0,1,1,0,0] 6 3 [n] (vcRet Pg R76 Q) [(0,x0),(1,x1),(6,x6),(7,x7),(8,x8),(40,x40),(47,x47)] h
def Gz1z (Q:AEnd→AH→Prop) (n:Nat) (x0 x1 x6 x7 x8 x34 x38:V) (h:AH):Prop:=segAt Pg N76 B76 K76 [1,1,0,1,0,0,1,0,1,1,0,0] 4 2 [n] (vcRet Pg R76 Q) [(0,x0),(1,x1),(6,x6),(7,x7),(8,x8),(34,x34),(38,x38)] h
def Gz1y (Q:AEnd→AH→Prop) (n:Nat) (x0 x1 x6 x7 x8 x29 x32:V) (h:AH):Prop:=segAt Pg N76 B76 K76 [1,1,0,1,0,0,1,0,1,1,0,0] 2 1 [n] (vcRet Pg R76 Q) [(0,x0),(1,x1),(6,x6),(7,x7),(8,x8),(29,x29),(32,x32)] h
def Jz6p (Q:AEnd→AH→Prop) (n:Nat) (x0 x1 x5 x6:V) (h:AH):Prop:=vcAt Pg N76 B76 K76 [1,1,0,1,0,0,1,0,1] [n] (vcRet Pg R76 Q) [(0,x0),(1,x1),(5,x5),(6,x6)] h
def Jz6o (Q:AEnd→AH→Prop) (n:Nat) (x0 x1 x5 x6:V) (h:AH):Prop:=vcAt Pg N76 B76 K76 [1,1,0,1,0,0,1] [n] (vcRet Pg R76 Q) [(0,x0),(1,x1),(5,x5),(6,x6)] h
def Jz6s (Q:AEnd→AH→Prop) (h:AH):Prop:=vcAt Pg N76 B76 K76 [1,1,1] [] (vcRet Pg R76 Q) [] h
def Lz7n (Q:AEnd→AH→Prop) (n:Nat) (x0 x1 x5 x6:V) (h:AH):Prop:=loopAt Pg N76 B76 K76 [1,1,0,1,0] [] n (vcRet Pg R76 Q) [(0,x0),(1,x1),(5,x5),(6,x6)] h
theorem Jz6r_eq (Q:AEnd→AH→Prop) (n:Nat) (x0 x1 x6 x7 x8:V) (h:AH):Jz6r Q n x0 x1 x6 x7 x8 h=(
 bindV (still (aBin Pg .add 3 x6 (V.int .i64 2) true) h) fun v24 h25 =>
 bindV (still (aBin Pg .add 3 x6 (V.int .i64 2) true) h25) fun v26 h27 =>
 bindV (still (aBin Pg .add 3 v26 x8 false) h27) fun v28 h29 =>
 bindV (still (aSlice Pg h29 9 x0 (some v24) (some v28)) h29) fun v30 h31 =>
 vcCallV Pg x1 [x7,v30] h31 (aEnd (fun v32 h33 =>
 bindV (still (aBin Pg .add 3 x7 x8 false) h33) fun v34 h35 =>
 bindV (still (aBin Pg .add 3 v34 (V.int .i64 1) true) h35) fun v36 h37 =>
 bindV (still (aBin Pg .add 3 (V.int .i64 2) x8 true) h37) fun v38 h39 =>
 bindV (still (aBin Pg .add 3 x6 v38 false) h39) fun v40 h41 =>
 Meet (Lz7n Q n x0 x1 v36 v40 h41)) fun v h=>Q (.panic v) h)):=by kernel_rfl
theorem Jz6q_eq (Q:AEnd→AH→Prop) (n:Nat) (x0 x1 x6 x7 x8 x48:V) (h:AH):Jz6q Q n x0 x1 x6 x7 x8 x48 h=(
 vcIf x48 (
 Q (.ret (V.bool false)) h) (
 Meet (Jz6r Q n x0 x1 x6 x7 x8 h))):=by kernel_rfl
theorem Gz20_eq (Q:AEnd→AH→Prop) (n:Nat) (x0 x1 x6 x7 x8 x40 x47:V) (h:AH):Gz20 Q n x0 x1 x6 x7 x8 x40 x47 h=(
 bindV (aPick x40 (V.bool true) x47 h) fun v22 h23 =>
 Meet (Jz6q Q n x0 x1 x6 x7 x8 v22 h23)):=by kernel_rfl
theorem Gz1z_eq (Q:AEnd→AH→Prop) (n:Nat) (x0 x1 x6 x7 x8 x34 x38:V) (h:AH):Gz1z Q n x0 x1 x6 x7 x8 x34 x38 h=(
 bindV (aPick x34 (V.bool true) x38 h) fun v20 h21 =>
 vcG v20 false (
 bindV (still (aBin Pg .add 3 x6 (V.int .i64 2) true) h21) fun v42 h43 =>
 bindV (still (aBin Pg .add 3 v42 x8 false) h43) fun v44 h45 =>
 bindV (aBuiltin Pg h45 .len [9] [x0]) fun v46 h47 =>
 bindV (still (aBin Pg .gtr 3 v44 v46 false) h47) fun v48 h49 =>
 Meet (Gz20 Q n x0 x1 x6 x7 x8 v20 v48 h49)) (Meet (Gz20 Q n x0 x1 x6 x7 x8 v20 hole h21))):=by kernel_rfl
theorem Gz1y_eq (Q:AEnd→AH→Prop) (n:Nat) (x0 x1 x6 x7 x8 x29 x32:V) (h:AH):Gz1y Q n x0 x1 x6 x7 x8 x29 x32 h=(
 bindV (aPick x29 (V.bool true) x32 h) fun v18 h19 =>
 vcG v18 false (
 bindV (still (aBin Pg .add 3 x7 x8 false) h19) fun v50 h51 =>
 bindV (still (aBin Pg .gtr 3 v50 (V.int .i64 64) true) h51) fun v52 h53 =>
 Meet (Gz1z Q n x0 x1 x6 x7 x8 v18 v52 h53)) (Meet (Gz1z Q n x0 x1 x6 x7 x8 v18 hole h19))):=by kernel_rfl
theorem Jz6p_eq (Q:AEnd→AH→Prop) (n:Nat) (x0 x1 x5 x6:V) (h:AH):Jz6p Q n x0 x1 x5 x6 h=(
 bindO (fstV (still (aIndex Pg 9 x0 x6) h)) fun v11 =>
 bindO (fstV (still (aConv Pg h 5 3 v11) h)) fun v12 =>
 bindO (fstV (still (aBin Pg .add 3 x6 (V.int .i64 1) true) h)) fun v13 =>
 bindO (fstV (still (aIndex Pg 9 x0 v13) h)) fun v14 =>
 bindO (fstV (still (aConv Pg h 5 3 v14) h)) fun v15 =>
 bindV (still (aBin Pg .lss 3 v15 (V.int .i64 1) true) h) fun v16 h17 =>
 vcG v16 false (
 bindV (still (aBin Pg .lss 3 v12 x5 false) h17) fun v54 h55 =>
 Meet (Gz1y Q n x0 x1 x6 v12 v15 v16 v54 h55)) (Meet (Gz1y Q n x0 x1 x6 v12 v15 v16 hole h17))):=by kernel_rfl
theorem Jz6o_eq (Q:AEnd→AH→Prop) (n:Nat) (x0 x1 x5 x6:V) (h:AH):Jz6o Q n x0 x1 x5 x6 h=(
 bindV (still (aBin Pg .add 3 x6 (V.int .i64 2) true) h) fun v5 h6 =>
 bindV (aBuiltin Pg h6 .len [9] [x0]) fun v7 h8 =>
 bindV (still (aBin Pg .gtr 3 v5 v7 false) h8) fun v9 h10 =>
 vcIf v9 (
 Q (.ret (V.bool false)) h10) (
 Meet (Jz6p Q n x0 x1 x5 x6 h10))):=by kernel_rfl
theorem Jz6s_eq (Q:AEnd→AH→Prop) (h:AH):Jz6s Q h=(
 Q (.ret (V.bool true)) h):=by kernel_rfl
theorem Lz7n_eq (Q:AEnd→AH→Prop) (n:Nat) (x0 x1 x5 x6:V) (h:AH):Lz7n Q (n + 1) x0 x1 x5 x6 h=(
 bindV (aBuiltin Pg h .len [9] [x0]) fun v1 h2 =>
 bindV (still (aBin Pg .lss 3 x6 v1 false) h2) fun v3 h4 =>
 vcIf v3 (
 Meet (Jz6o Q n x0 x1 x5 x6 h4)) (
 Meet (Jz6s Q h4))):=by kernel_rfl
theorem S76 (Q:AEnd→AH→Prop) (a0 a1:V) (h:AH):vc Pg N76 B76 K76 (vcRet Pg R76 Q) (initEnv 0 [a0,a1]) h=(
 ∃ n,Meet (Lz7n Q n a0 a1 (V.int .i64 0) (V.int .i64 0) h)):=by kernel_rfl
theorem C76 (Q:AEnd→AH→Prop) (a0 a1:V) (h:AH) (c :
 ∃ n,Meet (Lz7n Q n a0 a1 (V.int .i64 0) (V.int .i64 0) h)):ACalls Pg 76 [a0,a1] h Q :=
 acalls_of_vc okP Try.func76 (show Try.f76.body=some B76 from by kernel_rfl) K76 (by rw [← S76 Q a0 a1 h] at c;exact c)
noncomputable def B77:Code:=(Try.f77.body).getD .skip
def R77:List ResultVar:=[]
abbrev N77:Nat:=9
def K77:KT:=.leaf
theorem S77 (Q:AEnd→AH→Prop) (a0 a1 a2:V) (h:AH):vc Pg N77 B77 K77 (vcRet Pg R77 Q) (initEnv 0 [a0,a1,a2]) h=(
 bindV (still (aSlice Pg h 81 a2 (some a0) none) h) fun v1 h2 =>
 bindV (aBuiltin Pg h2 .copy [114,9] [v1,a1]) fun v3 h4 =>
 Q (.ret (V.tup [])) h4):=by kernel_rfl
theorem C77 (Q:AEnd→AH→Prop) (a0 a1 a2:V) (h:AH) (c :
 bindV (still (aSlice Pg h 81 a2 (some a0) none) h) fun v1 h2 =>
 bindV (aBuiltin Pg h2 .copy [114,9] [v1,a1]) fun v3 h4 =>
 Q (.ret (V.tup [])) h4):ACalls Pg 77 [a0,a1,a2] h Q :=
 acalls_of_vc okP Try.func77 (show Try.f77.body=some B77 from by kernel_rfl) K77 (by rw [← S77 Q a0 a1 a2 h] at c;exact c)
end Go.Proofs.Ytdfgfbammkojoaa.Sh
namespace Go.Proofs.Ytdfgfbammkojoaa.Sh
open Go Go.Ab Go.RowKit
open Go.Proofs.Ytdfgfbammkojoaa.Ru (Pg okP)
set_option maxRecDepth 10000
set_option linter.unusedSectionVars false
def dGo (d:List UInt8):Nat→Nat→Nat→List UInt8→Bool × List UInt8
 | 0,_,_,b=>(true,b)
 | f + 1,next,i,b =>
   if d.length≤i then (true,b)
   else if d.length < i + 2 then (false,b)
   else if (d.getD (i + 1) 0).toNat < 1∨(d.getD i 0).toNat < next∨64 < (d.getD i 0).toNat + (d.getD (i + 1) 0).toNat∨d.length < i + 2 + (d.getD (i + 1) 0).toNat then (false,b)
   else dGo d f ((d.getD i 0).toNat + (d.getD (i + 1) 0).toNat + 1) (i + (2 + (d.getD (i + 1) 0).toNat)) (copyB b (d.getD i 0).toNat (64 - (d.getD i 0).toNat) ((d.drop (i + 2)).take (d.getD (i + 1) 0).toNat))
theorem dGo_len (d:List UInt8):∀ (f next i:Nat) (b:List UInt8),b.length=64→(dGo d f next i b).2.length=64
 | 0,_,_,b,h=>h
 | f + 1,next,i,b,h=>by
   unfold dGo
   split
   · exact h
   · split
     · exact h
     · split
       · exact h
       · rename_i h1 h2 h3
         exact dGo_len d f _ _ _ (by rw [copyB_len (by omega),h])
theorem dGo_any (d:List UInt8):∀ (f next i:Nat) (b b':List UInt8),(dGo d f next i b).1=(dGo d f next i b').1
 | 0,_,_,b,b'=>rfl
 | f + 1,next,i,b,b'=>by
   unfold dGo
   split
   · rfl
   · split
     · rfl
     · split
       · rfl
       · exact dGo_any d f _ _ _ _
abbrev bodyC (b:List UInt8):AO:=.cells true (.one 81) (.agg (bytesV b))
abbrev layFn (m:Nat):V:=.fn (.func 77) [] [.ptr (some ⟨m,.one 81,[]⟩)]
theorem layBody {h:AH} {m:Nat} {b s:List UInt8} {a:Nat} {Q:AEnd→AH→Prop} (hm:h.m m=some (bodyC b)) (hb:b.length=64) (ha:a≤64) (k:∀ h',Upd h h' m (bodyC (copyB b a (64 - a) s))→Q (.ret (.tup [])) h') :
   ACalls Pg 77 [.int .i64 a,.str s,.ptr (some ⟨m,.one 81,[]⟩)] h Q:=by
 refine C77 _ _ _ _ _ ?_
 refine bindS_mk (slB (n:=64) hm (by kernel_rfl) (a:=a) (b:=64) (bnd_i (by omega)) rfl (by omega) (by omega)) ?_
 exact bindE (cpS_at hm (by kernel_rfl) (by omega)) fun h' u=>k h' u
section
variable {m:Nat} {Q:AEnd→AH→Prop} {d:List UInt8}
theorem eachL (hd:d.length < 1000000):∀ (f next i:Nat) (b:List UInt8) (h:AH),d.length - i < f→i≤1000000→next≤1000→h.m m=some (bodyC b)→b.length=64 →
   (∀ h',h'.next=h.next→(∀ n,n≠m→h'.m n=h.m n)→h'.m m=some (bodyC (dGo d f next i b).2)→Q (.ret (.bool (dGo d f next i b).1)) h') →
   Lz7n Q f (.str d) (layFn m) (.int .i64 next) (.int .i64 i) h
 | 0,_,_,_,_,hf,_,_,_,_,_=>by omega
 | f + 1,next,i,b,h,hf,hi,hn,hm,hb,k=>by
   rw [Lz7n_eq]
   refine bindV_mk (len_str (by kernel_rfl)) ?_
   refine bindS_mk b_lss ?_
   unfold dGo at k
   by_cases c1:d.length≤i
   · rw [decide_eq_false (by omega)]
     refine i_f ?_
     refine Meet.of (cast_p (Jz6s_eq _ _) ?_)
     simp only [if_pos c1] at k
     exact k h rfl (fun _ _=>rfl) hm
   · rw [decide_eq_true (by omega)]
     refine i_t ?_
     simp only [if_neg c1] at k
     refine Meet.of (cast_p (Jz6o_eq _ _ _ _ _ _ _) ?_)
     refine bindS_mk (w_add (wrap_i64 (by omega) (by omega))) ?_
     refine bindV_mk (len_str (by kernel_rfl)) ?_
     refine bindS_mk b_gtr ?_
     by_cases c2:d.length < i + 2
     · rw [decide_eq_true (by omega)]
       refine i_t ?_
       simp only [if_pos c2] at k
       exact k h rfl (fun _ _=>rfl) hm
     · rw [decide_eq_false (by omega)]
       refine i_f ?_
       simp only [if_neg c2] at k
       obtain ⟨A,hA⟩:∃ A,(d.getD i 0).toNat=A:=⟨_,rfl⟩
       obtain ⟨B,hB⟩:∃ B,(d.getD (i + 1) 0).toNat=B:=⟨_,rfl⟩
       have lA:A < 256:=by rw [← hA];exact UInt8.toNat_lt _
       have lB:B < 256:=by rw [← hB];exact UInt8.toNat_lt _
       rw [hA,hB] at k
       refine Meet.of (cast_p (Jz6p_eq _ _ _ _ _ _ _) ?_)
       refine bindSO_mk (ix_str (by kernel_rfl) (by omega)) ?_
       refine bindSO_mk (cv_wr (d:=3) (k:=.i64) (by kernel_rfl) (wrap_i64 (by omega) (by omega))) ?_
       refine bindSO_mk (w_add (wrap_i64 (by omega) (by omega))) ?_
       refine bindSO_mk (show aIndex Pg 9 (.str d) (.int .i64 (((i + 1:Nat)):Int))=_ from ix_str (by kernel_rfl) (by omega)) ?_
       refine bindSO_mk (cv_wr (d:=3) (k:=.i64) (by kernel_rfl) (wrap_i64 (by omega) (by omega))) ?_
       rw [hA,hB]
       -- the tests
       have stop:∀ x,x=true→(B < 1∨A < next∨64 < A + B∨d.length < i + 2 + B)→Jz6q Q f (.str d) (layFn m) (.int .i64 i) (.int .i64 A) (.int .i64 B) (.bool x) h:=by
         intro x hx c
         subst hx
         rw [Jz6q_eq]
         refine i_t ?_
         simp only [if_pos c] at k
         exact k h rfl (fun _ _=>rfl) hm
       have go:∀ x,x=false→¬ (B < 1∨A < next∨64 < A + B∨d.length < i + 2 + B)→Jz6q Q f (.str d) (layFn m) (.int .i64 i) (.int .i64 A) (.int .i64 B) (.bool x) h:=by
         intro x hx c
         subst hx
         rw [Jz6q_eq]
         refine i_f ?_
         simp only [if_neg c] at k
         refine Meet.of (cast_p (Jz6r_eq _ _ _ _ _ _ _ _) ?_)
         refine bindS_mk (w_add (wrap_i64 (by omega) (by omega))) ?_
         refine bindS_mk (w_add (wrap_i64 (by omega) (by omega))) ?_
         refine bindS_mk (w_add (wrap_i64 (by omega) (by omega))) ?_
         refine bindS_mk (sl_str (by kernel_rfl) (bnd_i (by omega)) (bnd_i (by omega)) (by omega) (by omega)) ?_
         have es:(d.drop ((i:Int) + 2).toNat).take (((i:Int) + 2 + B).toNat - ((i:Int) + 2).toNat)=(d.drop (i + 2)).take B:=by
           rw [show ((i:Int) + 2).toNat=i + 2 by omega,show ((i:Int) + 2 + B).toNat - (i + 2)=B by omega]
         rw [es]
         show ACalls Pg 77 [.int .i64 A,.str ((d.drop (i + 2)).take B),.ptr (some ⟨m,.one 81,[]⟩)] h _
         refine layBody hm hb (by omega) fun h1 u1=>?_
         refine aEnd_ret ?_
         refine bindS_mk (w_add (wrap_i64 (by omega) (by omega))) ?_
         refine bindS_mk (w_add (wrap_i64 (by omega) (by omega))) ?_
         refine bindS_mk (w_add (wrap_i64 (by omega) (by omega))) ?_
         refine bindS_mk (w_add (wrap_i64 (by omega) (by omega))) ?_
         rw [show (A:Int) + B + 1=((A + B + 1:Nat):Int) by omega,show (i:Int) + (2 + B)=((i + (2 + B):Nat):Int) by omega]
         refine Meet.of (eachL hd f (A + B + 1) (i + (2 + B)) _ h1 (by omega) (by omega) (by omega) u1.at_ (by rw [copyB_len (by omega),hb]) fun h' n' o' m'=>?_)
         exact k h' (by rw [n',u1.next]) (fun n hn=>(o' n hn).trans (u1.other n hn)) m'
       refine bindS_mk b_lss ?_
       by_cases t1:B < 1
       · rw [decide_eq_true (by omega)]
         refine g_tf ?_
         refine Meet.of (cast_p (Gz1y_eq _ _ _ _ _ _ _ _ _ _) ?_)
         refine bindV_mk p_t (g_tf ?_)
         refine Meet.of (cast_p (Gz1z_eq _ _ _ _ _ _ _ _ _ _) ?_)
         refine bindV_mk p_t (g_tf ?_)
         refine Meet.of (cast_p (Gz20_eq _ _ _ _ _ _ _ _ _ _) ?_)
         refine bindV_mk p_t ?_
         exact Meet.of (stop _ rfl (.inl t1))
       · rw [decide_eq_false (by omega)]
         refine g_ff ?_
         refine bindS_mk b_lss ?_
         refine Meet.of (cast_p (Gz1y_eq _ _ _ _ _ _ _ _ _ _) ?_)
         refine bindV_mk p_f ?_
         by_cases t2:A < next
         · rw [decide_eq_true (by omega)]
           refine g_tf ?_
           refine Meet.of (cast_p (Gz1z_eq _ _ _ _ _ _ _ _ _ _) ?_)
           refine bindV_mk p_t (g_tf ?_)
           refine Meet.of (cast_p (Gz20_eq _ _ _ _ _ _ _ _ _ _) ?_)
           refine bindV_mk p_t ?_
           exact Meet.of (stop _ rfl (.inr (.inl t2)))
         · rw [decide_eq_false (by omega)]
           refine g_ff ?_
           refine bindS_mk (w_add (wrap_i64 (by omega) (by omega))) ?_
           refine bindS_mk b_gtr ?_
           refine Meet.of (cast_p (Gz1z_eq _ _ _ _ _ _ _ _ _ _) ?_)
           refine bindV_mk p_f ?_
           by_cases t3:64 < A + B
           · rw [decide_eq_true (by omega)]
             refine g_tf ?_
             refine Meet.of (cast_p (Gz20_eq _ _ _ _ _ _ _ _ _ _) ?_)
             refine bindV_mk p_t ?_
             exact Meet.of (stop _ rfl (.inr (.inr (.inl t3))))
           · rw [decide_eq_false (by omega)]
             refine g_ff ?_
             refine bindS_mk (w_add (wrap_i64 (by omega) (by omega))) ?_
             refine bindS_mk (w_add (wrap_i64 (by omega) (by omega))) ?_
             refine bindV_mk (len_str (by kernel_rfl)) ?_
             refine bindS_mk b_gtr ?_
             refine Meet.of (cast_p (Gz20_eq _ _ _ _ _ _ _ _ _ _) ?_)
             refine bindV_mk p_f ?_
             by_cases t4:d.length < i + 2 + B
             · rw [decide_eq_true (by omega)]
               exact Meet.of (stop _ rfl (.inr (.inr (.inr t4))))
             · rw [decide_eq_false (by omega)]
               exact Meet.of (go _ rfl (by omega))
end
def deltaF (b d:List UInt8):Bool × List UInt8:=dGo d (d.length + 1) 0 0 b
noncomputable def applyV (b d:List UInt8):V:=if (deltaF b d).1 then .tup [.agg (bytesV (deltaF b d).2),.int .i64 0] else .tup [.agg (bytesV (zer 64)),.int .i64 2]
theorem zBody:zeroV Pg 81=some (.agg (bytesV (zer 64))):=by kernel_rfl
theorem bBody:aBuild Pg 81 []=some (.agg (bytesV (zer 64))):=by kernel_rfl
theorem applyP {b d:List UInt8} (hb:b.length=64) (hd:d.length < 1000000) (h:AH):ACalls Pg 53 [.agg (bytesV b),.str d] h (pureE (applyV b d) h):=by
 refine pure_lift (by simp only [flatBs,flatB,flat_bytes,Bool.and_self]) (by unfold applyV;split <;> simp only [flatB,flatBs,flat_bytes,Bool.and_self]) ?_ h
 refine C53 _ _ _ _ ?_
 refine bindE (new_at (shBody hb)) fun h1 u1=>?_
 have n1:=u1.next
 refine bindE (al_at zBody (shBody (zer_len 64))) fun h2 u2=>?_
 have n2:=u2.next
 refine bindV_mk (ld_mk (p:=[]) ((u2.other _ (by omega)).trans u1.at_) (by kernel_rfl) rfl) ?_
 refine bindE (al_at zBody (shBody (zer_len 64))) fun h3 u3=>?_
 have n3:=u3.next
 refine bindE (st_at (p:=[]) u3.at_ (by kernel_rfl) rfl (shBody hb) rfl) fun h4 u4=>?_
 have n4:=u4.next
 have f2:h4.m h1.next=some (bodyC (zer 64)):=(u4.other _ (by omega)).trans ((u3.other _ (by omega)).trans u2.at_)
 refine C76 _ _ _ _ ?_
 refine ⟨d.length + 1,Meet.of (eachL (m:=h2.next) hd (d.length + 1) 0 0 b h4 (by omega) (by omega) (by omega) u4.at_ hb fun h5 n5 o5 m5=>?_)⟩
 refine aEnd_ret ?_
 refine bindS_mk u_not ?_
 have f2':h5.m h1.next=some (bodyC (zer 64)):=(o5 _ (by omega)).trans f2
 by_cases c:(deltaF b d).1=true
 · rw [show (dGo d (d.length + 1) 0 0 b).1=true from c]
   refine i_f ?_
   refine Meet.of (cast_p (Jz5x_eq _ _ _ _) ?_)
   have l5:=dGo_len d (d.length + 1) 0 0 b hb
   refine bindV_mk (ld_mk (p:=[]) m5 (by kernel_rfl) rfl) ?_
   refine bindE (st_at (p:=[]) f2' (by kernel_rfl) rfl (shBody l5) rfl) fun h6 u6=>?_
   have q1:=ld_mk (P:=Pg) (t:=81) (p:=[]) u6.at_ (by kernel_rfl) (w:=.agg (bytesV (deltaF b d).2)) rfl
   simp only [aLoadV] at q1
   have q2:=(still_some q1).1
   refine bindR_mk (show aRes Pg _ _ R53=some [.agg (bytesV (deltaF b d).2),.int .i64 0] by simp [R53,aRes,Env.get,q2]) ?_
   rw [applyV,if_pos c];rfl
 · rw [show (dGo d (d.length + 1) 0 0 b).1=false from Bool.eq_false_iff.2 c]
   refine i_t ?_
   refine bindS_mk bBody ?_
   refine bindE (st_at (p:=[]) f2' (by kernel_rfl) rfl (shBody (zer_len 64)) rfl) fun h6 u6=>?_
   have q1:=ld_mk (P:=Pg) (t:=81) (p:=[]) u6.at_ (by kernel_rfl) (w:=.agg (bytesV (zer 64))) rfl
   simp only [aLoadV] at q1
   have q2:=(still_some q1).1
   refine bindR_mk (show aRes Pg _ _ R53=some [.agg (bytesV (zer 64)),.int .i64 2] by simp [R53,aRes,Env.get,q2]) ?_
   rw [applyV,if_neg c];rfl
end Go.Proofs.Ytdfgfbammkojoaa.Sh
namespace Go.Proofs.Ytdfgfbammkojoaa.Rcn
open Go Go.Ab Go.RowKit
open Go.Proofs.Ytdfgfbammkojoaa.Ru (Pg okP)
open Go.Proofs.Ytdfgfbammkojoaa.Sh
set_option maxRecDepth 10000
set_option maxHeartbeats 2000000
theorem ly51_2:layB Pg (.one 38) [2]=some (3,31):=by kernel_rfl
structure Rc where
 k:Int
 undo:Bool
 no:Int
 im:List Int
 ts:Int
 pp:Int
 ps:Int
 dl:List UInt8
 sl:Int
 live:Bool
 op:Int
 ots:Int
 onp:Int
 ons:Int
 od:List UInt8
 deriving DecidableEq
def vIm (l:List Int):V:=.agg (l.map (.int .u8))
def vRef (p s:Int):V:=.agg [.int .u16 p,.int .u8 s]
def vPg (u:Bool) (n:Int):V:=.agg [.bool u,.int .u16 n]
def vOld (live:Bool) (p ts np ns:Int) (d:List UInt8):V:=.agg [.bool live,.int .u16 p,.int .u32 ts,vRef np ns,.str d]
def vRec (k:Int) (undo:Bool) (no:Int) (im:List Int) (ts pp ps:Int) (dl:List UInt8) (sl:Int) (o:V):V :=
 .agg [.int .u8 k,vPg undo no,vIm im,.int .u32 ts,vRef pp ps,.str dl,.int .u8 sl,o]
def Rc.v (r:Rc):V:=vRec r.k r.undo r.no r.im r.ts r.pp r.ps r.dl r.sl (vOld r.live r.op r.ots r.onp r.ons r.od)
def im0:List Int:=List.replicate 224 0
theorem shIm {l:List Int} (h:l.length=224):hasShape Pg (vIm l) 31=true:=by
 have e:hasShape Pg (vIm l) 31=((l.map (V.int .u8)).length == 224 && shapesAll Pg (l.map (V.int .u8)) 5):=by kernel_rfl
 have all:∀ l:List Int,shapesAll Pg (l.map (V.int .u8)) 5=true:=by
   intro l
   induction l with
   | nil=>rfl
   | cons a l ih =>
     have:shapesAll Pg ((a :: l).map (V.int .u8)) 5=(hasShape Pg (.int .u8 a) 5 && shapesAll Pg (l.map (V.int .u8)) 5):=rfl
     rw [this,ih]
     have:hasShape Pg (.int .u8 a) 5=true:=by kernel_rfl
     rw [this];rfl
 rw [e,all]
 simp [h]
theorem shRec {k:Int} {undo:Bool} {no:Int} {im:List Int} {ts pp ps:Int} {dl:List UInt8} {sl:Int} {a:Bool} {b c d e:Int} {f:List UInt8} (h:im.length=224):hasShape Pg (vRec k undo no im ts pp ps dl sl (vOld a b c d e f)) 38=true:=by
 have e:hasShape Pg (vRec k undo no im ts pp ps dl sl (vOld a b c d e f)) 38=(hasShape Pg (vIm im) 31 && true):=by kernel_rfl
 rw [e,shIm h];rfl
theorem flat_im:∀ l:List Int,flatBs (l.map (V.int .u8))=true
 | []=>rfl
 | _ :: l=>by simp only [List.map_cons,flatBs,flatB,flat_im l,Bool.and_self]
theorem flat_rec (r:Rc):flatB r.v=true:=by
 simp only [Rc.v,vRec,vPg,vIm,vRef,vOld,flatB,flatBs,flat_im,Bool.and_self]
theorem flat_args (r:Rc):flatBs [r.v]=true:=by simp only [flatBs,flat_rec,Bool.and_self]
def Rc.z (k:Int):Rc:=⟨k,false,0,im0,0,0,0,[],0,false,0,0,0,0,[]⟩
def Rc.bare (r:Rc):Rc :=
 if r.k=1 then { Rc.z r.k with undo:=r.undo,no:=r.no,im:=r.im }
 else if r.k=2 then { Rc.z r.k with no:=r.no,ts:=r.ts,pp:=r.pp,ps:=r.ps,dl:=r.dl }
 else if r.k=3 then { Rc.z r.k with undo:=true,no:=r.no,sl:=r.sl,live:=true,op:=r.op,ots:=r.ots,onp:=r.onp,ons:=r.ons,od:=r.od }
 else if r.k=4 then { Rc.z r.k with undo:=true,no:=r.no,sl:=r.sl }
 else if r.k=5 then { Rc.z r.k with undo:=true,no:=r.no,sl:=r.sl }
 else if r.k=6 then { Rc.z r.k with ts:=r.ts }
 else Rc.z r.k
theorem Rc.bare_im (r:Rc) (hi:r.im.length=224):r.bare.im.length=224:=by
 have h0:im0.length=224:=List.length_replicate ..
 unfold Rc.bare
 repeat' split
 all_goals first | exact hi | exact h0
theorem beq_im:∀ a b:List Int,a.length=b.length→beqVs (a.map (V.int .u8)) (b.map (V.int .u8))=some (a == b)
 | [],[],_=>rfl
 | x :: a,y :: b,h=>by
   have ih:=beq_im a b (by simpa using h)
   simp only [List.map_cons,beqVs,beqV,if_true,ih]
   cases hxy:x == y
   · simp [List.beq_cons_cons,hxy]
   · simp [List.beq_cons_cons,hxy]
 | [],_ :: _,h=>by simp at h
 | _ :: _,[],h=>by simp at h
theorem beqVs_c {v w:V} {vs ws:List V} {b c:Bool} (hb:beqV v w=some b) (hc:beqVs vs ws=some c):beqVs (v :: vs) (w :: ws)=some (b && c):=by
 simp only [beqVs,hb]
 cases b <;> simp [hc]
theorem beqVs_n:beqVs [] []=some true:=rfl
theorem bq_i {k:IntKind} {a b:Int}:beqV (.int k a) (.int k b)=some (a == b):=by simp [beqV]
theorem bq_b {a b:Bool}:beqV (.bool a) (.bool b)=some (a == b):=rfl
theorem bq_s {a b:List UInt8}:beqV (.str a) (.str b)=some (a == b):=rfl
theorem bq_a {a b:List V} {c:Bool} (h:beqVs a b=some c):beqV (.agg a) (.agg b)=some c:=h
theorem beq_rec (r s:Rc) (h:r.im.length=s.im.length):beqV r.v s.v=some (decide (r=s)):=by
 have e:beqV r.v s.v=some ((r.k == s.k) && (((r.undo == s.undo) && ((r.no == s.no) && true)) && ((r.im == s.im) && ((r.ts == s.ts) && (((r.pp == s.pp) && ((r.ps == s.ps) && true)) && ((r.dl == s.dl) && ((r.sl == s.sl) &&
     (((r.live == s.live) && ((r.op == s.op) && ((r.ots == s.ots) && (((r.onp == s.onp) && ((r.ons == s.ons) && true)) && ((r.od == s.od) && true))))) && true)))))))) :=
   bq_a (beqVs_c bq_i (beqVs_c (bq_a (beqVs_c bq_b (beqVs_c bq_i beqVs_n))) (beqVs_c (bq_a (beq_im _ _ h)) (beqVs_c bq_i (beqVs_c (bq_a (beqVs_c bq_i (beqVs_c bq_i beqVs_n))) (beqVs_c bq_s (beqVs_c bq_i
     (beqVs_c (bq_a (beqVs_c bq_b (beqVs_c bq_i (beqVs_c bq_i (beqVs_c (bq_a (beqVs_c bq_i (beqVs_c bq_i beqVs_n))) (beqVs_c bq_s beqVs_n)))))) beqVs_n))))))))
 rw [e]
 congr 1
 obtain ⟨r1,r2,r3,r4,r5,r6,r7,r8,r9,ra,rb,rc,rd,re,rf⟩:=r
 obtain ⟨s1,s2,s3,s4,s5,s6,s7,s8,s9,sa,sb,sc,sd,se,sf⟩:=s
 simp only [Rc.mk.injEq]
 rw [Bool.eq_iff_iff]
 simp only [Bool.and_eq_true,beq_iff_eq,decide_eq_true_eq,and_true]
 constructor
 · rintro ⟨h1,⟨h2,h3⟩,h4,h5,⟨h6,h7⟩,h8,h9,ha,hb,hc,⟨hd,he⟩,hf⟩
   exact ⟨h1,h2,h3,h4,h5,h6,h7,h8,h9,ha,hb,hc,hd,he,hf⟩
 · rintro ⟨h1,h2,h3,h4,h5,h6,h7,h8,h9,ha,hb,hc,hd,he,hf⟩
   exact ⟨h1,⟨h2,h3⟩,h4,h5,⟨h6,h7⟩,h8,h9,ha,hb,hc,⟨hd,he⟩,hf⟩
theorem shR (r:Rc) (hi:r.im.length=224):hasShape Pg r.v 38=true:=shRec hi
theorem pl51:plainT Pg 20 38=true:=by kernel_rfl
theorem eq51 (r s:Rc) (hr:r.im.length=224) (hs:s.im.length=224) (c:Bool):aBin Pg .eql 38 r.v s.v c=some (.bool (decide (r=s))):=by
 have h1:aBin Pg .eql 38 r.v s.v c=if eqOk Pg 38 r.v s.v c=true then (aEq Pg 38 r.v s.v).map .bool else none:=rfl
 have h2:eqOk Pg 38 r.v s.v c=true:=by kernel_rfl
 rw [h1,h2,if_pos rfl]
 unfold aEq
 rw [pl51,if_pos rfl,shR r hr,shR s hs,beq_rec r s (by rw [hr,hs])]
 rfl
end Go.Proofs.Ytdfgfbammkojoaa.Rcn
namespace Go.Proofs.Ytdfgfbammkojoaa.Rcn
open Go Go.Ab Go.RowKit
open Go.Proofs.Ytdfgfbammkojoaa.Ru (Pg okP)
open Go.Proofs.Ytdfgfbammkojoaa.Sh
set_option maxRecDepth 10000
set_option maxHeartbeats 2000000
def rz (k:Int):V:=(Rc.z k).v
theorem zero51:zeroV Pg 38=some (rz 0):=by kernel_rfl
theorem build51 (k:Int):aBuild Pg 38 [(0,.int .u8 k)]=some (rz k):=by kernel_rfl
theorem shRz (k:Int):hasShape Pg (rz k) 38=true:=shR _ (List.length_replicate ..)
theorem build42 (n:Int):aBuild Pg 29 [(0,.bool true),(1,.int .u16 n)]=some (vPg true n):=by kernel_rfl
theorem bareC (r:Rc) (hi:r.im.length=224) (q:AEnd→Prop) (c:q (.ret r.bare.v)):ACalls Pg 50 [r.v] AH0 fun e _=>q e:=by
 refine C50 _ r.v AH0 ?_
 repeat' (first
   | (with_reducible refine bindV_mk (new_mk (by first | with_unfolding_all exact shR _ hi | with_unfolding_all exact shRz _ | with_unfolding_all exact shIm hi | kernel_rfl)) ?_)
   | (with_reducible refine bindV_mk (al_mk zero51 (shRz 0)) ?_)
   | (with_reducible refine bindS_mk (build51 _) ?_)
   | (with_reducible refine And.intro (ld_mk (by with_unfolding_all exact rfl) (by kernel_rfl) (by with_unfolding_all exact rfl)) ?_)
   | (with_reducible refine bindS_mk build42 ?_)
   | (with_reducible refine bindSO_mk (build42 _) ?_)
   | (with_reducible refine bindR_mk (by with_unfolding_all exact rfl) ?_)
   | (with_reducible refine bindS_mk (fa_mk (by kernel_rfl)) ?_)
   | (with_reducible refine bindSO_mk (fa_mk (by kernel_rfl)) ?_)
   | (with_reducible refine bindV_mk (ld_mk (by with_unfolding_all exact rfl) (by kernel_rfl) (by with_unfolding_all exact rfl)) ?_)
   | (with_reducible refine bindVO_mk (ld_mk (by with_unfolding_all exact rfl) (by kernel_rfl) (by with_unfolding_all exact rfl)) ?_)
   | (with_reducible refine bindV_mk (st_mk (by with_unfolding_all exact rfl) (by kernel_rfl) (by with_unfolding_all exact rfl) (by first | with_unfolding_all exact shR _ hi | with_unfolding_all exact shRz _ | with_unfolding_all exact shIm hi | kernel_rfl) (by with_unfolding_all exact rfl)) ?_)
   | (with_reducible refine bindS_mk b_add ?_)
   | (with_reducible refine bindSO_mk b_add ?_)
   | (with_reducible refine bindS_mk b_sub ?_)
   | (with_reducible refine bindSO_mk b_sub ?_)
   | (with_reducible refine bindS_mk b_mul ?_)
   | (with_reducible refine bindSO_mk b_mul ?_)
   | (with_reducible refine bindS_mk b_eql ?_)
   | (with_reducible refine bindSO_mk b_eql ?_)
   | (with_reducible refine bindS_mk b_neq ?_)
   | (with_reducible refine bindSO_mk b_neq ?_)
   | (with_reducible refine bindS_mk b_lss ?_)
   | (with_reducible refine bindSO_mk b_lss ?_)
   | (with_reducible refine bindS_mk b_leq ?_)
   | (with_reducible refine bindSO_mk b_leq ?_)
   | (with_reducible refine bindS_mk b_gtr ?_)
   | (with_reducible refine bindSO_mk b_gtr ?_)
   | (with_reducible refine bindS_mk b_geq ?_)
   | (with_reducible refine bindSO_mk b_geq ?_)
   | (with_reducible refine bindS_mk t_eql ?_)
   | (with_reducible refine bindSO_mk t_eql ?_)
   | (with_reducible refine bindS_mk t_neq ?_)
   | (with_reducible refine bindSO_mk t_neq ?_)
   | (with_reducible refine bindS_mk u_not ?_)
   | (with_reducible refine bindSO_mk u_not ?_)
   | (with_reducible refine bindS_mk (b_quo (by decide)) ?_)
   | (with_reducible refine bindS_mk (b_rem (by decide)) ?_)
   | (with_reducible refine bindS_mk (cv_int .u64 (by kernel_rfl)) ?_)
   | (with_reducible refine bindSO_mk (cv_int .u64 (by kernel_rfl)) ?_)
   | (with_reducible refine bindS_mk (cv_int .i64 (by kernel_rfl)) ?_)
   | (with_reducible refine bindSO_mk (cv_int .i64 (by kernel_rfl)) ?_)
   | (with_reducible refine bindS_mk (cv_int .u8 (by kernel_rfl)) ?_)
   | (with_reducible refine bindSO_mk (cv_int .u8 (by kernel_rfl)) ?_)
   | (with_reducible refine bindS_mk (cv_int .u16 (by kernel_rfl)) ?_)
   | (with_reducible refine bindSO_mk (cv_int .u16 (by kernel_rfl)) ?_)
   | (with_reducible refine bindS_mk (cv_int .u32 (by kernel_rfl)) ?_)
   | (with_reducible refine bindSO_mk (cv_int .u32 (by kernel_rfl)) ?_)
   | (with_reducible refine bindV_mk (len_str (by kernel_rfl)) ?_)
   | (with_reducible refine bindVO_mk (len_str (by kernel_rfl)) ?_)
   | (with_reducible refine bindV_mk p_t ?_)
   | (with_reducible refine bindVO_mk p_t ?_)
   | (with_reducible refine bindV_mk p_f ?_)
   | (with_reducible refine bindVO_mk p_f ?_)
   | (with_reducible refine bindV_mk (pick_b _ _ _ _) ?_)
   | (with_reducible refine bindVO_mk (pick_b _ _ _ _) ?_)
   | (with_reducible refine g_tt ?_)
   | (with_reducible refine g_ft ?_)
   | (with_reducible refine g_tf ?_)
   | (with_reducible refine g_ff ?_)
   | (with_reducible refine g_hole ?_)
   | (with_reducible refine i_t ?_)
   | (with_reducible refine i_f ?_)
   | ((with_reducible refine i_split ?_ ?_) <;> intro hb <;> (try rw [hb]))
   | ((with_reducible refine g_split_t ?_ ?_) <;> intro hb <;> (try rw [hb]))
   | ((with_reducible refine g_split_f ?_ ?_) <;> intro hb <;> (try rw [hb]))
   | (with_reducible refine Meet.of (cast_p (Jz5u_eq _ _ _ _) ?_))
   | (with_reducible refine Meet.of (cast_p (Jz5p_eq _ _ _ _ _) ?_))
   | (with_reducible refine Meet.of (cast_p (Jz5q_eq _ _ _ _ _) ?_))
   | (with_reducible refine Meet.of (cast_p (Jz5s_eq _ _ _ _ _) ?_))
   | (with_reducible refine Meet.of (cast_p (Jz5r_eq _ _ _ _ _) ?_))
   | (with_reducible refine Meet.of (cast_p (Jz5t_eq _ _ _ _ _) ?_))
   | (with_reducible refine Meet.of (cast_p (Jz5o_eq _ _ _ _) ?_))
   | (with_reducible refine Meet.of (cast_p (Jz5n_eq _ _ _ _ _ _) ?_))
   | (with_reducible refine Meet.of (cast_p (Jz5m_eq _ _ _ _ _ _ _) ?_))
   | (with_reducible refine Meet.of (cast_p (Jz5l_eq _ _ _ _ _ _) ?_))
   | (with_reducible refine Meet.of (cast_p (Jz5k_eq _ _ _ _ _ _) ?_))
   | (with_reducible refine Meet.of (cast_p (Jz5j_eq _ _ _ _ _ _) ?_))
   )
 all_goals (
   simp only [beq_iff_eq,beq_eq_false_iff_ne,ne_eq] at *
   unfold Rc.bare at c
   repeat (first | rw [if_pos (by assumption)] at c | rw [if_neg (by assumption)] at c)
   first | exact c | with_unfolding_all exact c)
theorem bareP (r:Rc) (hi:r.im.length=224) (h:AH):ACalls Pg 50 [r.v] h (pureE r.bare.v h):=pure_lift (flat_args r) (flat_rec _) (bareC r hi _ rfl) h
theorem conv {q:AEnd→Prop} {a b:Bool} (c:q (.ret (.bool a))) (e:a=b):q (.ret (.bool b)):=e▸c
def Rc.may (r:Rc):Bool:=decide (1≤r.k) && decide (r.k≤6) && decide (r.bare=r) && decide (r.dl.length≤66) && decide (r.od.length≤66)
theorem mayC (r:Rc) (hi:r.im.length=224) (q:AEnd→Prop) (c:q (.ret (.bool r.may))):ACalls Pg 21 [r.v] AH0 fun e _=>q e:=by
 refine C21 _ r.v AH0 ?_
 repeat' (first
   | (refine ⟨_,bareP _ hi _,?_⟩)
   | (with_reducible refine bindSO_mk (eq51 _ _ (Rc.bare_im _ hi) hi _) ?_)
   | (with_reducible refine bindV_mk (new_mk (by first | with_unfolding_all exact shR _ hi | with_unfolding_all exact shRz _ | with_unfolding_all exact shIm hi | kernel_rfl)) ?_)
   | (with_reducible refine bindV_mk (al_mk zero51 (shRz 0)) ?_)
   | (with_reducible refine bindS_mk (build51 _) ?_)
   | (with_reducible refine And.intro (ld_mk (by with_unfolding_all exact rfl) (by kernel_rfl) (by with_unfolding_all exact rfl)) ?_)
   | (with_reducible refine bindS_mk build42 ?_)
   | (with_reducible refine bindSO_mk (build42 _) ?_)
   | (with_reducible refine bindR_mk (by with_unfolding_all exact rfl) ?_)
   | (with_reducible refine bindS_mk (fa_mk (by kernel_rfl)) ?_)
   | (with_reducible refine bindSO_mk (fa_mk (by kernel_rfl)) ?_)
   | (with_reducible refine bindV_mk (ld_mk (by with_unfolding_all exact rfl) (by kernel_rfl) (by with_unfolding_all exact rfl)) ?_)
   | (with_reducible refine bindVO_mk (ld_mk (by with_unfolding_all exact rfl) (by kernel_rfl) (by with_unfolding_all exact rfl)) ?_)
   | (with_reducible refine bindV_mk (st_mk (by with_unfolding_all exact rfl) (by kernel_rfl) (by with_unfolding_all exact rfl) (by first | with_unfolding_all exact shR _ hi | with_unfolding_all exact shRz _ | with_unfolding_all exact shIm hi | kernel_rfl) (by with_unfolding_all exact rfl)) ?_)
   | (with_reducible refine bindS_mk b_add ?_)
   | (with_reducible refine bindSO_mk b_add ?_)
   | (with_reducible refine bindS_mk b_sub ?_)
   | (with_reducible refine bindSO_mk b_sub ?_)
   | (with_reducible refine bindS_mk b_mul ?_)
   | (with_reducible refine bindSO_mk b_mul ?_)
   | (with_reducible refine bindS_mk b_eql ?_)
   | (with_reducible refine bindSO_mk b_eql ?_)
   | (with_reducible refine bindS_mk b_neq ?_)
   | (with_reducible refine bindSO_mk b_neq ?_)
   | (with_reducible refine bindS_mk b_lss ?_)
   | (with_reducible refine bindSO_mk b_lss ?_)
   | (with_reducible refine bindS_mk b_leq ?_)
   | (with_reducible refine bindSO_mk b_leq ?_)
   | (with_reducible refine bindS_mk b_gtr ?_)
   | (with_reducible refine bindSO_mk b_gtr ?_)
   | (with_reducible refine bindS_mk b_geq ?_)
   | (with_reducible refine bindSO_mk b_geq ?_)
   | (with_reducible refine bindS_mk t_eql ?_)
   | (with_reducible refine bindSO_mk t_eql ?_)
   | (with_reducible refine bindS_mk t_neq ?_)
   | (with_reducible refine bindSO_mk t_neq ?_)
   | (with_reducible refine bindS_mk u_not ?_)
   | (with_reducible refine bindSO_mk u_not ?_)
   | (with_reducible refine bindS_mk (b_quo (by decide)) ?_)
   | (with_reducible refine bindS_mk (b_rem (by decide)) ?_)
   | (with_reducible refine bindS_mk (cv_int .u64 (by kernel_rfl)) ?_)
   | (with_reducible refine bindSO_mk (cv_int .u64 (by kernel_rfl)) ?_)
   | (with_reducible refine bindS_mk (cv_int .i64 (by kernel_rfl)) ?_)
   | (with_reducible refine bindSO_mk (cv_int .i64 (by kernel_rfl)) ?_)
   | (with_reducible refine bindS_mk (cv_int .u8 (by kernel_rfl)) ?_)
   | (with_reducible refine bindSO_mk (cv_int .u8 (by kernel_rfl)) ?_)
   | (with_reducible refine bindS_mk (cv_int .u16 (by kernel_rfl)) ?_)
   | (with_reducible refine bindSO_mk (cv_int .u16 (by kernel_rfl)) ?_)
   | (with_reducible refine bindS_mk (cv_int .u32 (by kernel_rfl)) ?_)
   | (with_reducible refine bindSO_mk (cv_int .u32 (by kernel_rfl)) ?_)
   | (with_reducible refine bindV_mk (len_str (by kernel_rfl)) ?_)
   | (with_reducible refine bindVO_mk (len_str (by kernel_rfl)) ?_)
   | (with_reducible refine bindV_mk p_t ?_)
   | (with_reducible refine bindVO_mk p_t ?_)
   | (with_reducible refine bindV_mk p_f ?_)
   | (with_reducible refine bindVO_mk p_f ?_)
   | (with_reducible refine bindV_mk (pick_b _ _ _ _) ?_)
   | (with_reducible refine bindVO_mk (pick_b _ _ _ _) ?_)
   | (with_reducible refine g_tt ?_)
   | (with_reducible refine g_ft ?_)
   | (with_reducible refine g_tf ?_)
   | (with_reducible refine g_ff ?_)
   | (with_reducible refine g_hole ?_)
   | (with_reducible refine i_t ?_)
   | (with_reducible refine i_f ?_)
   | ((with_reducible refine i_split ?_ ?_) <;> intro hb <;> (try rw [hb]))
   | ((with_reducible refine g_split_t ?_ ?_) <;> intro hb <;> (try rw [hb]))
   | ((with_reducible refine g_split_f ?_ ?_) <;> intro hb <;> (try rw [hb]))
   | (with_reducible refine Meet.of (cast_p (Jz2x_eq _ _ _) ?_))
   | (with_reducible refine Meet.of (cast_p (Gz8_eq _ _ _ _) ?_))
   | (with_reducible refine Meet.of (cast_p (Gz7_eq _ _ _ _ _) ?_))
   | (with_reducible refine Meet.of (cast_p (Gz6_eq _ _ _ _ _) ?_))
   | (with_reducible refine Meet.of (cast_p (Gz5_eq _ _ _ _ _) ?_))
   )
 all_goals (
   refine conv c ?_
   unfold Rc.may
   simp only [ge_iff_le] at *
   first
     | (simp only [*,Bool.and_true,Bool.true_and,Bool.and_false,Bool.false_and];done)
     | (simp only [*,Bool.and_true,Bool.true_and,Bool.and_false,Bool.false_and];rw [Bool.eq_iff_iff];simp only [decide_eq_true_eq,Bool.false_eq_true,iff_false,Bool.and_eq_true,decide_eq_false_iff_not] at *;omega))
theorem mayP (r:Rc) (hi:r.im.length=224) (h:AH):ACalls Pg 21 [r.v] h (pureE (.bool r.may) h):=pure_lift (flat_args r) rfl (mayC r hi _ rfl) h
end Go.Proofs.Ytdfgfbammkojoaa.Rcn
namespace Go.Proofs.Ytdfgfbammkojoaa.Rcn
open Go Go.Ab Go.RowKit
open Go.Proofs.Ytdfgfbammkojoaa.Ru (Pg okP)
open Go.Proofs.Ytdfgfbammkojoaa.Sh
set_option maxRecDepth 10000
set_option maxHeartbeats 2000000
def rawE (v:Int) (i:Int):UInt8:=UInt8.ofNat (IntKind.u8.wrap (shrI .u64 v (IntKind.i64.wrap (8 * i)))).toNat
theorem ew22_2 (q:AEnd→Prop) (v:Int):vc Pg N54 B54 .leaf (vcRet Pg R54 (fun e _=>q e)) (initEnv 0 [.int .u64 v,.int .i64 2]) AH0=q (.ret (.str [rawE v 0,rawE v 1])):=by kernel_rfl
theorem ew22_4 (q:AEnd→Prop) (v:Int):vc Pg N54 B54 .leaf (vcRet Pg R54 (fun e _=>q e)) (initEnv 0 [.int .u64 v,.int .i64 4]) AH0=q (.ret (.str [rawE v 0,rawE v 1,rawE v 2,rawE v 3])):=by kernel_rfl
theorem wrap8 (x:Int):IntKind.u8.wrap x=x % 256:=rfl
def lay:Nat→Int→List UInt8
 | 0,_=>[]
 | n + 1,v=>UInt8.ofNat (v % 256).toNat :: lay n (v / 256)
theorem rawE_eq (v:Int):rawE v 0=UInt8.ofNat (v % 256).toNat∧rawE v 1=UInt8.ofNat (v / 256 % 256).toNat∧rawE v 2=UInt8.ofNat (v / 256 / 256 % 256).toNat∧rawE v 3=UInt8.ofNat (v / 256 / 256 / 256 % 256).toNat:=by
 have e (i:Int) (n:Nat) (h:min (IntKind.i64.wrap (8 * i)).toNat 64=n):rawE v i=UInt8.ofNat (v / 2 ^ n % 256).toNat:=by
   unfold rawE shrI
   rw [wrap8]
   have:IntKind.u64.bits=64:=rfl
   rw [this,h]
 refine ⟨?_,?_,?_,?_⟩
 · rw [e 0 0 (by decide)];congr 2;simp
 · rw [e 1 8 (by decide)];congr 2
 · rw [e 2 16 (by decide)];congr 2;omega
 · rw [e 3 24 (by decide)];congr 2;omega
theorem d22_2 (q:AEnd→Prop) (v:Int) (c:q (.ret (.str [rawE v 0,rawE v 1]))):ACalls Pg 54 [.int .u64 v,.int .i64 2] AH0 fun e _=>q e :=
 acalls_vc okP Try.func54 (show Try.f54.body=some B54 from by kernel_rfl) .leaf N54 R54 rfl (by kernel_rfl) (by rw [ew22_2 q v];exact c)
theorem d22_4 (q:AEnd→Prop) (v:Int) (c:q (.ret (.str [rawE v 0,rawE v 1,rawE v 2,rawE v 3]))):ACalls Pg 54 [.int .u64 v,.int .i64 4] AH0 fun e _=>q e :=
 acalls_vc okP Try.func54 (show Try.f54.body=some B54 from by kernel_rfl) .leaf N54 R54 rfl (by kernel_rfl) (by rw [ew22_4 q v];exact c)
theorem putA2 (v:Int) (h:AH):ACalls Pg 54 [.int .u64 v,.int .i64 2] h (pureE (.str (lay 2 v)) h):=by
 refine pure_lift rfl rfl (d22_2 _ v ?_) h
 obtain ⟨h0,h1,_,_⟩:=rawE_eq v
 rw [h0,h1];rfl
theorem putA4 (v:Int) (h:AH):ACalls Pg 54 [.int .u64 v,.int .i64 4] h (pureE (.str (lay 4 v)) h):=by
 refine pure_lift rfl rfl (d22_4 _ v ?_) h
 obtain ⟨h0,h1,h2,h3⟩:=rawE_eq v
 rw [h0,h1,h2,h3];rfl
def b1 (v:Int):UInt8:=UInt8.ofNat (v % 256).toNat
theorem bs1 (h:AH) (x:Int):aBuildSlice Pg h 114 1 [(0,.int .u8 x)]=some (.slc (some (⟨h.next,.row 5,[]⟩,0)) 1,h.make (.cells true (.row 5) (.agg [.int .u8 x]))):=by kernel_rfl
theorem bs1c (x:Int):aConv Pg (AH0.make (.cells true (.row 5) (.agg [.int .u8 x]))) 114 9 (.slc (some (⟨AH0.next,.row 5,[]⟩,0)) 1)=some (.str [UInt8.ofNat x.toNat]):=by kernel_rfl
theorem lit1 (x:Int):litConv Pg 114 1 [(0,.int .u8 x)] 114 9=some (.str [UInt8.ofNat x.toNat]):=by kernel_rfl
theorem shortC (s:List UInt8) (hs:s.length < 1000000) (q:AEnd→Prop) (c:q (.ret (.str (b1 s.length :: s)))):ACalls Pg 55 [.str s] AH0 fun e _=>q e:=by
 refine C55 _ _ AH0 ?_
 refine bindV_mk (len_str (by kernel_rfl)) ?_
 refine bindS_mk (cv_int .u8 (by kernel_rfl)) ?_
 refine bindV_mk (bs1 _ _) ?_
 refine bindS_mk (bs1c _) ?_
 refine bindS_mk (t_add (by simp only [List.length_singleton];omega)) ?_
 rw [wrap8]
 exact c
theorem shortP (s:List UInt8) (hs:s.length < 1000000) (h:AH):ACalls Pg 55 [.str s] h (pureE (.str (b1 s.length :: s)) h):=pure_lift rfl rfl (shortC s hs _ rfl) h
theorem shRef (p s:Int):hasShape Pg (vRef p s) 34=true:=by kernel_rfl
theorem refC (p s:Int) (q:AEnd→Prop) (c:q (.ret (.str (lay 2 (IntKind.u64.wrap p)++[UInt8.ofNat s.toNat])))):ACalls Pg 56 [vRef p s] AH0 fun e _=>q e:=by
 refine C56 _ _ AH0 ?_
 refine bindV_mk (new_mk (shRef p s)) ?_
 refine bindSO_mk (fa_mk (by kernel_rfl)) ?_
 refine bindVO_mk (ld_mk rfl (by kernel_rfl) rfl) ?_
 refine bindSO_mk (cv_int .u64 (by kernel_rfl)) ?_
 refine ⟨_,putA2 _ _,?_⟩
 refine bindSO_mk (fa_mk (by kernel_rfl)) ?_
 refine bindVO_mk (ld_mk rfl (by kernel_rfl) rfl) ?_
 refine bindO_mk' (lit1 _) ?_
 refine bindSO_mk (t_add (by simp [lay])) ?_
 exact c
theorem refP (p s:Int) (h:AH):ACalls Pg 56 [vRef p s] h (pureE (.str (lay 2 (IntKind.u64.wrap p)++[UInt8.ofNat s.toNat])) h):=pure_lift rfl rfl (refC p s _ rfl) h
end Go.Proofs.Ytdfgfbammkojoaa.Rcn
namespace Go.Proofs.Ytdfgfbammkojoaa.Rcn
open Go Go.Ab Go.RowKit
open Go.Proofs.Ytdfgfbammkojoaa.Ru (Pg okP)
open Go.Proofs.Ytdfgfbammkojoaa.Sh
set_option maxRecDepth 10000
set_option maxHeartbeats 2000000
def trimTo (im:List Int):Nat→Nat
 | 0=>0
 | n + 1=>if im.getD n 0=0 then trimTo im n else n + 1
theorem trimTo_le (im:List Int):∀ n,trimTo im n≤n
 | 0=>Nat.le_refl _
 | n + 1=>by
   simp only [trimTo]
   split
   · have:=trimTo_le im n;omega
   · omega
theorem ia44 (n:Nat) (i:Int):aIndexAddr Pg 31 (.ptr (some ⟨n,.one 38,[2]⟩)) (.int .i64 i)=(if (decide (0≤i∧i < 224))=true then some (.ptr (some ⟨n,.one 38,[2,i.toNat]⟩)) else none):=by kernel_rfl
theorem ld44 (k:Nat):ldOk Pg (.one 38) [2,k] 5=true:=by kernel_rfl
theorem getIm (r:Rc) (k:Nat) (hk:k < r.im.length):getV r.v [2,k]=some (.int .u8 (r.im.getD k 0)):=by
 have e:getV r.v [2,k]=match (r.im.map (V.int .u8))[k]? with | some x=>getV x [] | none=>none:=rfl
 rw [e,List.getElem?_map,List.getElem?_eq_getElem hk,List.getD_eq_getElem?_getD,List.getElem?_eq_getElem hk]
 rfl
abbrev p0:V:=.ptr (some ⟨AH0.next,.one 38,[]⟩)
abbrev h1 (r:Rc):AH:=AH0.make (.cells true (.one 38) r.v)
theorem loop29 (r:Rc) (hi:r.im.length=224) (Q:AEnd→AH→Prop) (x4 x5:V) (h:AH) (hm:h.m AH0.next=some (.cells true (.one 38) r.v)):∀ (k n:Nat),k≤224→k < n →
   Jz3b Q p0 x4 x5 (.int .i64 (trimTo r.im k)) h→Lz79 Q n p0 x4 x5 (.int .i64 k) h:=by
 intro k
 induction k with
 | zero =>
   intro n _ hn c
   obtain ⟨n,rfl⟩:∃ m,n=m + 1:=⟨n - 1,by omega⟩
   rw [Lz79_eq]
   refine bindS_mk b_gtr ?_
   refine g_split_t (fun hb=>by simp at hb) (fun hb=>?_)
   rw [hb]
   refine Meet.of (cast_p (Gzd_eq _ _ _ _ _ _ _ _ _) ?_)
   refine bindV_mk p_f ?_
   refine Meet.of (cast_p (Jz39_eq _ _ _ _ _ _ _ _) ?_)
   refine i_f ?_
   exact Meet.of c
 | succ k ih =>
   intro n hk hn c
   obtain ⟨n,rfl⟩:∃ m,n=m + 1:=⟨n - 1,by omega⟩
   rw [Lz79_eq]
   refine bindS_mk b_gtr ?_
   have hg:decide (((k + 1:Nat):Int) > 0)=true:=by rw [decide_eq_true_eq];omega
   rw [hg]
   refine g_tt ?_
   refine bindS_mk b_sub ?_
   have hw:IntKind.i64.wrap (((k + 1:Nat):Int) - 1)=(k:Int):=by
     have e:∀ x:Int,IntKind.i64.wrap x=(if (true && decide (x % 18446744073709551616 ≥ 9223372036854775808))=true then x % 18446744073709551616 - 18446744073709551616 else x % 18446744073709551616):=fun _=>rfl
     rw [e,Bool.true_and]
     rw [if_neg (by rw [decide_eq_true_eq];omega)]
     omega
   rw [hw]
   refine bindS_mk (fa_mk (by kernel_rfl)) ?_
   refine bindS_mk ((ia44 _ _).trans (if_pos (by simp;omega))) ?_
   refine bindV_mk (ld_mk (v:=r.v) hm (ld44 _) (getIm r _ (by rw [hi];simp;omega))) ?_
   refine bindS_mk b_eql ?_
   refine Meet.of (cast_p (Gzd_eq _ _ _ _ _ _ _ _ _) ?_)
   refine bindV_mk p_t ?_
   refine Meet.of (cast_p (Jz39_eq _ _ _ _ _ _ _ _) ?_)
   refine i_split (fun hb=>?_) (fun hb=>?_)
   · refine Meet.of (cast_p (Jz3a_eq _ _ _ _ _ _ _) ?_)
     refine bindS_mk b_sub ?_
     rw [hw]
     refine Meet.of (ih n (by omega) (by omega) ?_)
     have h0:r.im.getD k 0=0:=by simpa using hb
     simp only [trimTo,h0,if_true] at c
     exact c
   · have h0:¬ r.im.getD k 0=0:=by simpa using hb
     simp only [trimTo,h0,if_false] at c
     exact Meet.of c
structure Rc.ok (r:Rc):Prop where
 im:r.im.length=224
 imb:∀ x∈r.im,0≤x∧x < 256
 k:0≤r.k∧r.k < 256
 no:0≤r.no∧r.no < 65536
 ts:0≤r.ts∧r.ts < 4294967296
 pp:0≤r.pp∧r.pp < 65536
 ps:0≤r.ps∧r.ps < 256
 dl:r.dl.length < 140737488355328
 sl:0≤r.sl∧r.sl < 256
 op:0≤r.op∧r.op < 65536
 ots:0≤r.ots∧r.ots < 4294967296
 onp:0≤r.onp∧r.onp < 65536
 ons:0≤r.ons∧r.ons < 256
 od:r.od.length < 140737488355328
def c1 (x:Int):UInt8:=UInt8.ofNat x.toNat
def imB (l:List Int):List UInt8:=l.map c1
def Rc.enc (r:Rc):List UInt8 :=
 if r.k=1 then c1 r.k :: (if r.undo then 1 else 0) :: (lay 2 r.no++c1 (trimTo r.im 224) :: imB (r.im.take (trimTo r.im 224)))
 else if r.k=2 then c1 r.k :: (lay 2 r.no++(lay 4 r.ts++(lay 2 r.pp++c1 r.ps :: c1 r.dl.length :: r.dl)))
 else if r.k=3 then c1 r.k :: (lay 2 r.no++c1 r.sl :: (lay 2 r.op++(lay 4 r.ots++(lay 2 r.onp++c1 r.ons :: c1 r.od.length :: r.od))))
 else if r.k=6 then c1 r.k :: lay 4 r.ts
 else c1 r.k :: (lay 2 r.no++[c1 r.sl])
theorem w64 {x:Int} (h:0≤x) (h2:x < 18446744073709551616):IntKind.u64.wrap x=x:=by rw [wrap_u64];omega
theorem b1_c1 {x:Int} (h:0≤x) (h2:x < 256):b1 x=c1 x:=by unfold b1 c1;congr 2;omega
theorem lay_len:∀ (n:Nat) (v:Int),(lay n v).length=n
 | 0,_=>rfl
 | n + 1,v=>by simp [lay,lay_len n]
theorem bsc (h:AH) (n:Nat) (x:Int) (hm:h.m n=some (.cells true (.row 5) (.agg [.int .u8 x]))):aConv Pg h 114 9 (.slc (some (⟨n,.row 5,[]⟩,0)) 1)=some (.str [c1 x]):=by
 have b:Buf 5 h (.slc (some (⟨n,.row 5,[]⟩,0)) 1) [x]∨¬ n < h.next:=by
   by_cases hn:n < h.next
   · exact .inl (.inr ⟨n,hn,rfl,hm⟩)
   · exact .inr hn
 have e0:aConv Pg h 114 9 (.slc (some (⟨n,.row 5,[]⟩,0)) 1)=(match aElems Pg h 5 (.slc (some (⟨n,.row 5,[]⟩,0)) 1) with | some es=>(match toBytes es with | some s=>some (.str s) | none=>none) | none=>none):=by kernel_rfl
 have e1:=elems_row (P:=Pg) hm
 simp only [List.length_singleton] at e1
 rw [e0,e1];rfl
theorem slIm (h:AH) (n k:Nat) (r:Rc) (hi:r.im.length=224) (hk:k≤224) (hm:h.m n=some (.cells true (.one 38) r.v)):aSlice Pg h 31 (.ptr (some ⟨n,.one 38,[2]⟩)) none (some (.int .i64 (k:Int)))=some (.slc (some (⟨n,.one 38,[2]⟩,0)) k):=by
 have e0:∀ o,aSlice Pg h 31 (.ptr (some ⟨n,.one 38,[2]⟩)) none (some o)=match h.m n with
   | some (.cells _ ty v)=>(match layB Pg ty [2],getV v [2],bnd none 0,bnd (some o) 224 with
       | some (_,u),some (.agg _),some l,some k=>if ty=.one 38∧l≤k∧k≤224∧(ul Pg 5).isSome∧isArr Pg u 224 5 then some (.slc (some (⟨n,.one 38,[2]⟩,l)) (k - l)) else none
       | _,_,_,_=>none)
   | _=>none:=fun o=>by kernel_rfl
 rw [e0,hm]
 have e1:layB Pg (.one 38) [2]=some (3,31):=ly51_2
 have e2:getV r.v [2]=some (.agg (r.im.map (V.int .u8))):=rfl
 have e3:bnd none 0=some 0:=rfl
 have e4:bnd (some (.int .i64 (k:Int))) 224=some k:=by simp [bnd]
 have e5:isArr Pg 31 224 5=true:=by kernel_rfl
 have e6:(ul Pg 5).isSome=true:=by kernel_rfl
 simp only [e1,e2,e3,e4,e5,e6,hk,Nat.zero_le,and_self,if_true,Nat.sub_zero]
theorem cvIm (h:AH) (n k:Nat) (r:Rc) (hi:r.im.length=224) (hk:k≤224) (hm:h.m n=some (.cells true (.one 38) r.v)):aConv Pg h 114 9 (.slc (some (⟨n,.one 38,[2]⟩,0)) k)=some (.str (imB (r.im.take k))):=by
 have e0:aConv Pg h 114 9 (.slc (some (⟨n,.one 38,[2]⟩,0)) k)=(match aElems Pg h 5 (.slc (some (⟨n,.one 38,[2]⟩,0)) k) with | some es=>(match toBytes es with | some s=>some (.str s) | none=>none) | none=>none):=by kernel_rfl
 have e1:Ab.rowAt Pg (.one 38) [2]=some (3,5):=by kernel_rfl
 have e2:getV r.v [2]=some (.agg (r.im.map (V.int .u8))):=rfl
 have e3:aElems Pg h 5 (.slc (some (⟨n,.one 38,[2]⟩,0)) k)=some ((r.im.take k).map (V.int .u8)):=by
   simp only [aElems,hm,e1,e2,if_true,Nat.zero_add,List.length_map,hi,hk,and_self,List.drop_zero,List.map_take]
 rw [e0,e3]
 simp only [toBytes_map]
 rfl
theorem conv2 {q:AEnd→Prop} {a b:List UInt8} {x:V} (c:q (.ret (.tup [.str a,x]))) (e:a=b):q (.ret (.tup [.str b,x])):=e▸c
end Go.Proofs.Ytdfgfbammkojoaa.Rcn
namespace Go.Proofs.Ytdfgfbammkojoaa.Rcn
open Go Go.Ab Go.RowKit
open Go.Proofs.Ytdfgfbammkojoaa.Ru (Pg okP)
open Go.Proofs.Ytdfgfbammkojoaa.Sh
set_option maxRecDepth 10000
set_option maxHeartbeats 2000000
theorem tail29 (r:Rc) (o:r.ok) (k:Nat) (hk:k≤224) (q:AEnd→Prop) (a b:List UInt8) (ha:a.length < 1000) (hb:b.length < 1000) (h:AH) (hm:h.m AH0.next=some (.cells true (.one 38) r.v))
   (c:q (.ret (.tup [.str (a++(if r.undo then 1 else 0) :: (b++b1 k :: imB (r.im.take k))),.int .i64 0]))):Jz3b (fun e _=>q e) p0 (.str a) (.str b) (.int .i64 (k:Int)) h:=by
 have hl:(imB (r.im.take k)).length=k:=by
   have:=o.im
   simp only [imB,List.length_map,List.length_take];omega
 rw [Jz3b_eq]
 refine bindS_mk (fa_mk (by kernel_rfl)) ?_
 refine bindS_mk (fa_mk (by kernel_rfl)) ?_
 refine bindV_mk (ld_mk hm (by kernel_rfl) (by with_unfolding_all exact rfl)) ?_
 have fin:∀ u:UInt8,q (.ret (.tup [.str (a++u :: (b++b1 k :: imB (r.im.take k))),.int .i64 0]))→Jz3c (fun e _=>q e) p0 (.str a) (.str b) (.int .i64 (k:Int)) (.str [u]) h:=by
   intro u c
   rw [Jz3c_eq]
   refine bindS_mk (t_add (by simp only [List.length_singleton];omega)) ?_
   refine bindS_mk (t_add (by simp only [List.length_append,List.length_singleton];omega)) ?_
   refine bindS_mk (fa_mk (by kernel_rfl)) ?_
   refine bindS_mk (slIm _ _ _ r o.im hk hm) ?_
   refine bindS_mk (cvIm _ _ _ r o.im hk hm) ?_
   refine call_mk (shortP _ (by omega) _) ?_
   refine bindS_mk (t_add (by simp only [List.length_append,List.length_singleton,List.length_cons,List.length_nil];omega)) ?_
   rw [hl]
   refine conv2 c ?_
   simp only [List.append_assoc,List.singleton_append,List.cons_append,List.nil_append]
 refine i_split (fun hu=>?_) (fun hu=>?_)
 · refine Meet.of (fin 1 ?_)
   rw [hu] at c
   exact c
 · refine Meet.of (fin 0 ?_)
   rw [hu] at c
   exact c
def encRes (r:Rc):V:=if r.may=true then .tup [.str r.enc,.int .i64 0] else .tup [.str [],.int .i64 1]
theorem encC (r:Rc) (o:r.ok) (q:AEnd→Prop) (c:q (.ret (encRes r))):ACalls Pg 25 [r.v] AH0 fun e _=>q e:=by
 have hi:=o.im
 refine C25 _ r.v AH0 ?_
 refine bindV_mk (new_mk (shR _ hi)) ?_
 refine bindV_mk (ld_mk (by with_unfolding_all exact rfl) (by kernel_rfl) (by with_unfolding_all exact rfl)) ?_
 refine call_mk (mayP _ hi _) ?_
 refine bindS_mk u_not ?_
 refine i_split (fun hb=>?_) (fun hb=>?_)
 · have hm:=not_f hb
   unfold encRes at c
   rw [if_neg (by rw [hm];decide)] at c
   exact c
 have hm:=not_t hb
 unfold encRes at c
 rw [if_pos hm] at c
 have hd:r.dl.length≤66∧r.od.length≤66∧r.k ≥ 1∧r.k≤6:=by
   unfold Rc.may at hm
   simp only [Bool.and_eq_true,decide_eq_true_eq] at hm
   omega
 obtain ⟨hd1,hd2,hk1,hk6⟩:=hd
 refine Meet.of (cast_p (Jz38_eq _ _ _) ?_)
 have wno:IntKind.u64.wrap r.no=r.no:=w64 o.no.1 (by have:=o.no.2;omega)
 have wts:IntKind.u64.wrap r.ts=r.ts:=w64 o.ts.1 (by have:=o.ts.2;omega)
 have wpp:IntKind.u64.wrap r.pp=r.pp:=w64 o.pp.1 (by have:=o.pp.2;omega)
 have wop:IntKind.u64.wrap r.op=r.op:=w64 o.op.1 (by have:=o.op.2;omega)
 have wot:IntKind.u64.wrap r.ots=r.ots:=w64 o.ots.1 (by have:=o.ots.2;omega)
 have bd:b1 (r.dl.length:Int)=c1 r.dl.length:=b1_c1 (by omega) (by omega)
 have bo:b1 (r.od.length:Int)=c1 r.od.length:=b1_c1 (by omega) (by omega)
 have bt:b1 (trimTo r.im 224:Int)=c1 (trimTo r.im 224):=by
   have:=trimTo_le r.im 224
   exact b1_c1 (by omega) (by omega)
 have uc:∀ x:Int,UInt8.ofNat x.toNat=c1 x:=fun _=>rfl
 have won:IntKind.u64.wrap r.onp=r.onp:=w64 o.onp.1 (by have:=o.onp.2;omega)
 repeat' (first
   | (with_reducible refine call_mk (mayP _ hi _) ?_)
   | (with_reducible refine call_mk (putA2 _ _) ?_)
   | (with_reducible refine call_mk (putA4 _ _) ?_)
   | (with_reducible refine ⟨_,putA2 _ _,?_⟩)
   | (with_reducible refine ⟨_,putA4 _ _,?_⟩)
   | (with_reducible refine ⟨_,refP _ _ _,?_⟩)
   | (with_reducible refine ⟨_,shortP _ (by omega) _,?_⟩)
   | (with_reducible refine call_mk (shortP _ (by omega) _) ?_)
   | (with_reducible refine bindO_mk' (lit1 _) ?_)
   | (with_reducible refine bindV_mk (bs1 _ _) ?_)
   | (with_reducible refine bindS_mk (bsc _ _ _ (by with_unfolding_all exact rfl)) ?_)
   | (with_reducible refine bindS_mk (t_add (by simp only [List.length_append,List.length_cons,List.length_nil,lay_len,imB,List.length_map,List.length_take];omega)) ?_)
   | (with_reducible refine bindSO_mk (t_add (by simp only [List.length_append,List.length_cons,List.length_nil,lay_len,imB,List.length_map,List.length_take];omega)) ?_)
   | (refine ⟨225,Meet.of (loop29 r hi _ _ _ _ (by with_unfolding_all exact rfl) 224 225 (by decide) (by decide) (tail29 r o _ (trimTo_le _ _) q _ _ (by simp) (by simp [lay_len]) _ (by with_unfolding_all exact rfl) ?_))⟩)
   | (with_reducible refine bindS_mk (fa_mk (by kernel_rfl)) ?_)
   | (with_reducible refine bindSO_mk (fa_mk (by kernel_rfl)) ?_)
   | (with_reducible refine bindV_mk (ld_mk (by with_unfolding_all exact rfl) (by kernel_rfl) (by with_unfolding_all exact rfl)) ?_)
   | (with_reducible refine bindVO_mk (ld_mk (by with_unfolding_all exact rfl) (by kernel_rfl) (by with_unfolding_all exact rfl)) ?_)
   | (with_reducible refine bindV_mk (st_mk (by with_unfolding_all exact rfl) (by kernel_rfl) (by with_unfolding_all exact rfl) (by kernel_rfl) (by with_unfolding_all exact rfl)) ?_)
   | (with_reducible refine bindS_mk b_add ?_)
   | (with_reducible refine bindSO_mk b_add ?_)
   | (with_reducible refine bindS_mk b_sub ?_)
   | (with_reducible refine bindSO_mk b_sub ?_)
   | (with_reducible refine bindS_mk b_mul ?_)
   | (with_reducible refine bindSO_mk b_mul ?_)
   | (with_reducible refine bindS_mk b_eql ?_)
   | (with_reducible refine bindSO_mk b_eql ?_)
   | (with_reducible refine bindS_mk b_neq ?_)
   | (with_reducible refine bindSO_mk b_neq ?_)
   | (with_reducible refine bindS_mk b_lss ?_)
   | (with_reducible refine bindSO_mk b_lss ?_)
   | (with_reducible refine bindS_mk b_leq ?_)
   | (with_reducible refine bindSO_mk b_leq ?_)
   | (with_reducible refine bindS_mk b_gtr ?_)
   | (with_reducible refine bindSO_mk b_gtr ?_)
   | (with_reducible refine bindS_mk b_geq ?_)
   | (with_reducible refine bindSO_mk b_geq ?_)
   | (with_reducible refine bindS_mk t_eql ?_)
   | (with_reducible refine bindSO_mk t_eql ?_)
   | (with_reducible refine bindS_mk t_neq ?_)
   | (with_reducible refine bindSO_mk t_neq ?_)
   | (with_reducible refine bindS_mk u_not ?_)
   | (with_reducible refine bindSO_mk u_not ?_)
   | (with_reducible refine bindS_mk (b_quo (by decide)) ?_)
   | (with_reducible refine bindS_mk (b_rem (by decide)) ?_)
   | (with_reducible refine bindS_mk (cv_int .u64 (by kernel_rfl)) ?_)
   | (with_reducible refine bindSO_mk (cv_int .u64 (by kernel_rfl)) ?_)
   | (with_reducible refine bindS_mk (cv_int .i64 (by kernel_rfl)) ?_)
   | (with_reducible refine bindSO_mk (cv_int .i64 (by kernel_rfl)) ?_)
   | (with_reducible refine bindS_mk (cv_int .u8 (by kernel_rfl)) ?_)
   | (with_reducible refine bindSO_mk (cv_int .u8 (by kernel_rfl)) ?_)
   | (with_reducible refine bindS_mk (cv_int .u16 (by kernel_rfl)) ?_)
   | (with_reducible refine bindSO_mk (cv_int .u16 (by kernel_rfl)) ?_)
   | (with_reducible refine bindS_mk (cv_int .u32 (by kernel_rfl)) ?_)
   | (with_reducible refine bindSO_mk (cv_int .u32 (by kernel_rfl)) ?_)
   | (with_reducible refine bindV_mk (len_str (by kernel_rfl)) ?_)
   | (with_reducible refine bindVO_mk (len_str (by kernel_rfl)) ?_)
   | (with_reducible refine bindV_mk p_t ?_)
   | (with_reducible refine bindVO_mk p_t ?_)
   | (with_reducible refine bindV_mk p_f ?_)
   | (with_reducible refine bindVO_mk p_f ?_)
   | (with_reducible refine bindV_mk (pick_b _ _ _ _) ?_)
   | (with_reducible refine bindVO_mk (pick_b _ _ _ _) ?_)
   | (with_reducible refine g_tt ?_)
   | (with_reducible refine g_ft ?_)
   | (with_reducible refine g_tf ?_)
   | (with_reducible refine g_ff ?_)
   | (with_reducible refine g_hole ?_)
   | (with_reducible refine i_t ?_)
   | (with_reducible refine i_f ?_)
   | ((with_reducible refine i_split ?_ ?_) <;> intro hb <;> (try rw [hb]))
   | ((with_reducible refine g_split_t ?_ ?_) <;> intro hb <;> (try rw [hb]))
   | ((with_reducible refine g_split_f ?_ ?_) <;> intro hb <;> (try rw [hb]))
   | (with_reducible refine Meet.of (cast_p (Jz3a_eq _ _ _ _ _ _ _) ?_))
   | (with_reducible refine Meet.of (cast_p (Jz3c_eq _ _ _ _ _ _ _) ?_))
   | (with_reducible refine Meet.of (cast_p (Jz3b_eq _ _ _ _ _ _) ?_))
   | (with_reducible refine Meet.of (cast_p (Jz39_eq _ _ _ _ _ _ _ _) ?_))
   | (with_reducible refine Meet.of (cast_p (Gzd_eq _ _ _ _ _ _ _ _ _) ?_))
   | (with_reducible refine Meet.of (cast_p (Jz3d_eq _ _ _ _ _) ?_))
   | (with_reducible refine Meet.of (cast_p (Jz38_eq _ _ _) ?_))
   )
 all_goals (
   simp only [beq_iff_eq,beq_eq_false_iff_ne,ne_eq] at *
   refine conv2 c ?_
   unfold Rc.enc
   repeat (first | rw [if_pos (by assumption)] | rw [if_neg (by assumption)])
   simp only [wno,wts,wpp,wop,wot,won,bd,bo,bt,uc,List.append_assoc,List.singleton_append,List.cons_append,List.nil_append])
theorem encP (r:Rc) (o:r.ok) (h:AH):ACalls Pg 25 [r.v] h (pureE (encRes r) h):=by
 refine pure_lift (flat_args r) ?_ (encC r o (fun e=>e=.ret (encRes r)) rfl) h
 unfold encRes
 split <;> rfl
end Go.Proofs.Ytdfgfbammkojoaa.Rcn
namespace Go.Proofs.Ytdfgfbammkojoaa.Sh
open Go Go.Ab Go.RowKit
open Go.Proofs.Ytdfgfbammkojoaa.Ru (Pg okP)
set_option maxRecDepth 100000
noncomputable def B23:Code:=(Try.f23.body).getD .skip
def R23:List ResultVar:=[.cell 6 31,.tmp 7]
abbrev N23:Nat:=85
def K23:KT:=(.seq .leaf (.seq .leaf (.join (.join (.reg [[3,4,5,6,8,18,21],[3,4,5,6,8,23,27]]) (.two (.seq .leaf .leaf [6,7]) .leaf) [3,4,5,6,8,28]) (.join (.seq .leaf (.two .leaf .leaf) [3,4,5,6,8,32]) (.join (.seq .leaf (.two (.seq .leaf .leaf [6,7]) .leaf) [3,4,5,6,8,36]) (.seq .leaf (.join (.seq .leaf (.two (.seq .leaf .leaf [6,7]) .leaf) [3,5,6,8,9,10,52]) (.join (.seq .leaf (.two (.seq .leaf (.join (.seq .leaf (.two (.seq .leaf .leaf [6,7]) .leaf) [3,5,6,8,9,11,12,67]) (.eff [6,8,10]) [3,5,6,8,9,11]) [3,5,6,8,9,11,12]) .leaf) [3,5,6,8,9,57]) (.seq .leaf (.seq .leaf .leaf [6,7]) [3,6,9]) [3,5,6,9]) [3,5,6,8,9]) [3,5,6,8,9,10]) [3,4,5,6,8]) [3,4,5,6,8]) [3,4,5,6,8]) [3,4,5,6,8]) [3,4,5,6])
def Jz36 (Q:AEnd→AH→Prop) (x3 x5 x6 x9:V) (h:AH):Prop:=vcAt Pg N23 B23 K23 [1,1,1,1,1,1,1,1] [] (vcRet Pg R23 Q) [(3,x3),(5,x5),(6,x6),(9,x9)] h
def Jz35 (Q:AEnd→AH→Prop) (x3 x5 x6 x8 x9 x11:V) (h:AH):Prop:=vcAt Pg N23 B23 K23 [1,1,1,1,1,1,1,0,1,0,1,1] [] (vcRet Pg R23 Q) [(3,x3),(5,x5),(6,x6),(8,x8),(9,x9),(11,x11)] h
def Jz34 (Q:AEnd→AH→Prop) (x3 x5 x6 x8 x9:V) (h:AH):Prop:=vcAt Pg N23 B23 K23 [1,1,1,1,1,1,1] [] (vcRet Pg R23 Q) [(3,x3),(5,x5),(6,x6),(8,x8),(9,x9)] h
def Jz33 (Q:AEnd→AH→Prop) (x3 x4 x5 x6 x8:V) (h:AH):Prop:=vcAt Pg N23 B23 K23 [1,1,1,1,1] [] (vcRet Pg R23 Q) [(3,x3),(4,x4),(5,x5),(6,x6),(8,x8)] h
def Jz32 (Q:AEnd→AH→Prop) (x3 x4 x5 x6 x8:V) (h:AH):Prop:=vcAt Pg N23 B23 K23 [1,1,1,1] [] (vcRet Pg R23 Q) [(3,x3),(4,x4),(5,x5),(6,x6),(8,x8)] h
def Jz31 (Q:AEnd→AH→Prop) (x3 x4 x5 x6 x8:V) (h:AH):Prop:=vcAt Pg N23 B23 K23 [1,1,1] [] (vcRet Pg R23 Q) [(3,x3),(4,x4),(5,x5),(6,x6),(8,x8)] h
def Jz30 (Q:AEnd→AH→Prop) (x3 x4 x5 x6 x8 x28:V) (h:AH):Prop:=vcAt Pg N23 B23 K23 [1,1,0,1] [] (vcRet Pg R23 Q) [(3,x3),(4,x4),(5,x5),(6,x6),(8,x8),(28,x28)] h
def Gzb (Q:AEnd→AH→Prop) (x3 x4 x5 x6 x8 x23 x27:V) (h:AH):Prop:=segAt Pg N23 B23 K23 [1,1,0,0] 4 2 [] (vcRet Pg R23 Q) [(3,x3),(4,x4),(5,x5),(6,x6),(8,x8),(23,x23),(27,x27)] h
def Gza (Q:AEnd→AH→Prop) (x3 x4 x5 x6 x8 x18 x21:V) (h:AH):Prop:=segAt Pg N23 B23 K23 [1,1,0,0] 2 1 [] (vcRet Pg R23 Q) [(3,x3),(4,x4),(5,x5),(6,x6),(8,x8),(18,x18),(21,x21)] h
theorem Jz36_eq (Q:AEnd→AH→Prop) (x3 x5 x6 x9:V) (h:AH):Jz36 Q x3 x5 x6 x9 h=(
 bindV (still (aFieldAddr Pg 72 x5 0) h) fun v129 h130 =>
 bindV (aLoadV Pg h130 42 v129) fun v131 h132 =>
 bindV (still (aFieldAddr Pg 83 x9 0) h132) fun v133 h134 =>
 bindV (aStoreV Pg h134 42 v133 v131) fun _ h136 =>
 bindV (still (aFieldAddr Pg 29 x3 1) h136) fun v137 h138 =>
 bindV (aLoadV Pg h138 27 v137) fun v139 h140 =>
 bindV (aLoadV Pg h140 83 x9) fun v141 h142 =>
 ACalls Pg 45 [v139,v141] h142 (aEnd (fun v143 h144 =>
 bindV (aStoreV Pg h144 31 x6 v143) fun _ h146 =>
 bindR (aRes Pg [(6,x6),(7,(V.int .i64 0))] h146 R23) fun v=>Q (.ret v) h146) fun v h=>Q (.panic v) h)):=by kernel_rfl
theorem Jz35_eq (Q:AEnd→AH→Prop) (x3 x5 x6 x8 x9 x11:V) (h:AH):Jz35 Q x3 x5 x6 x8 x9 x11 h=(
 bindO (fstV (still (aFieldAddr Pg 38 x8 3) h)) fun v115 =>
 bindO (fstV (aLoadV Pg h 32 v115)) fun v116 =>
 (
 bindO (fstV (still (aFieldAddr Pg 38 x8 4) h)) fun v117 =>
 bindO (fstV (aLoadV Pg h 34 v117)) fun v118 =>
 (
 bindO (fstV (aLoadV Pg h 81 x11)) fun v119 =>
 (
 bindO (fstV (still (aFieldAddr Pg 83 x9 1) h)) fun v120 =>
 bindV (aStoreV Pg h 32 v120 v116) fun _ h122=>(aLoadV Pg h122 81 x11=some (v119,h122))∧(aLoadV Pg h122 34 v117=some (v118,h122))∧(
 bindO (fstV (still (aFieldAddr Pg 83 x9 2) h122)) fun v123 =>
 bindV (aStoreV Pg h122 34 v123 v118) fun _ h125=>(aLoadV Pg h125 81 x11=some (v119,h125))∧(
 bindO (fstV (still (aFieldAddr Pg 83 x9 3) h125)) fun v126 =>
 bindV (aStoreV Pg h125 81 v126 v119) fun _ h128=>(
 Meet (Jz36 Q x3 x5 x6 x9 h128)))))))):=by kernel_rfl
theorem Jz34_eq (Q:AEnd→AH→Prop) (x3 x5 x6 x8 x9:V) (h:AH):Jz34 Q x3 x5 x6 x8 x9 h=(
 bindV (still (aFieldAddr Pg 38 x8 0) h) fun v85 h86 =>
 bindV (aLoadV Pg h86 5 v85) fun v87 h88 =>
 bindV (still (aBin Pg .eql 5 v87 (V.int .u8 2) true) h88) fun v89 h90 =>
 vcIf v89 (
 bindV (still (aFieldAddr Pg 83 x9 3) h90) fun v91 h92 =>
 bindV (aLoadV Pg h92 81 v91) fun v93 h94 =>
 bindV (still (aFieldAddr Pg 38 x8 5) h94) fun v95 h96 =>
 bindV (aLoadV Pg h96 9 v95) fun v97 h98 =>
 ACalls Pg 53 [v93,v97] h98 (aEnd (fun v99 h100 =>
 bindV (still (aExtract v99 0) h100) fun v101 h102 =>
 bindV (still (aExtract v99 1) h102) fun v103 h104 =>
 bindV (aAlloc Pg h104 81) fun v105 h106 =>
 bindV (aStoreV Pg h106 81 v105 v101) fun _ h108 =>
 bindV (still (aBin Pg .neq 39 v103 (V.int .i64 0) true) h108) fun v109 h110 =>
 vcIf v109 (
 bindV (still (aBuild Pg 31 []) h110) fun v111 h112 =>
 bindV (aStoreV Pg h112 31 x6 v111) fun _ h114 =>
 bindR (aRes Pg [(6,x6),(7,v103)] h114 R23) fun v=>Q (.ret v) h114) (
 Meet (Jz35 Q x3 x5 x6 x8 x9 v105 h110))) fun v h=>Q (.panic v) h)) (
 Meet (Jz36 Q x3 x5 x6 x9 h90))):=by kernel_rfl
theorem Jz33_eq (Q:AEnd→AH→Prop) (x3 x4 x5 x6 x8:V) (h:AH):Jz33 Q x3 x4 x5 x6 x8 h=(
 bindV (still (aFieldAddr Pg 29 x3 1) h) fun v63 h64 =>
 bindV (aLoadV Pg h64 27 v63) fun v65 h66 =>
 bindV (aLoadV Pg h66 31 x4) fun v67 h68 =>
 ACalls Pg 29 [v65,v67] h68 (aEnd (fun v69 h70 =>
 bindV (still (aExtract v69 0) h70) fun v71 h72 =>
 bindV (still (aExtract v69 1) h72) fun v73 h74 =>
 bindV (aAlloc Pg h74 83) fun v75 h76 =>
 bindV (aStoreV Pg h76 83 v75 v71) fun _ h78 =>
 bindV (still (aBin Pg .neq 39 v73 (V.int .i64 0) true) h78) fun v79 h80 =>
 vcIf v79 (
 bindV (still (aBuild Pg 31 []) h80) fun v81 h82 =>
 bindV (aStoreV Pg h82 31 x6 v81) fun _ h84 =>
 bindR (aRes Pg [(6,x6),(7,v73)] h84 R23) fun v=>Q (.ret v) h84) (
 Meet (Jz34 Q x3 x5 x6 x8 v75 h80))) fun v h=>Q (.panic v) h)):=by kernel_rfl
theorem Jz32_eq (Q:AEnd→AH→Prop) (x3 x4 x5 x6 x8:V) (h:AH):Jz32 Q x3 x4 x5 x6 x8 h=(
 bindV (still (aFieldAddr Pg 29 x3 0) h) fun v43 h44 =>
 bindV (aLoadV Pg h44 4 v43) fun v45 h46 =>
 vcIf v45 (
 bindV (still (aFieldAddr Pg 29 x3 1) h46) fun v47 h48 =>
 bindV (aLoadV Pg h48 27 v47) fun v49 h50 =>
 bindV (aLoadV Pg h50 31 x4) fun v51 h52 =>
 bindV (aLoadV Pg h52 72 x5) fun v53 h54 =>
 ACalls Pg 52 [v49,v51,v53] h54 (aEnd (fun v55 h56 =>
 bindV (still (aExtract v55 0) h56) fun v57 h58 =>
 bindV (still (aExtract v55 1) h58) fun v59 h60 =>
 bindV (aStoreV Pg h60 31 x6 v57) fun _ h62 =>
 bindR (aRes Pg [(6,x6),(7,v59)] h62 R23) fun v=>Q (.ret v) h62) fun v h=>Q (.panic v) h)) (
 Meet (Jz33 Q x3 x4 x5 x6 x8 h46))):=by kernel_rfl
theorem Jz31_eq (Q:AEnd→AH→Prop) (x3 x4 x5 x6 x8:V) (h:AH):Jz31 Q x3 x4 x5 x6 x8 h=(
 bindV (still (aFieldAddr Pg 38 x8 0) h) fun v31 h32 =>
 bindV (aLoadV Pg h32 5 v31) fun v33 h34 =>
 bindV (still (aBin Pg .eql 5 v33 (V.int .u8 1) true) h34) fun v35 h36 =>
 vcIf v35 (
 bindV (still (aFieldAddr Pg 38 x8 2) h36) fun v37 h38 =>
 bindV (aLoadV Pg h38 31 v37) fun v39 h40 =>
 bindV (aStoreV Pg h40 31 x4 v39) fun _ h42 =>
 Meet (Jz32 Q x3 x4 x5 x6 x8 h42)) (
 Meet (Jz32 Q x3 x4 x5 x6 x8 h36))):=by kernel_rfl
theorem Jz30_eq (Q:AEnd→AH→Prop) (x3 x4 x5 x6 x8 x28:V) (h:AH):Jz30 Q x3 x4 x5 x6 x8 x28 h=(
 vcIf x28 (
 bindV (still (aBuild Pg 31 []) h) fun v27 h28 =>
 bindV (aStoreV Pg h28 31 x6 v27) fun _ h30 =>
 bindR (aRes Pg [(6,x6),(7,(V.int .i64 1))] h30 R23) fun v=>Q (.ret v) h30) (
 Meet (Jz31 Q x3 x4 x5 x6 x8 h))):=by kernel_rfl
theorem Gzb_eq (Q:AEnd→AH→Prop) (x3 x4 x5 x6 x8 x23 x27:V) (h:AH):Gzb Q x3 x4 x5 x6 x8 x23 x27 h=(
 bindV (aPick x23 (V.bool true) x27 h) fun v25 h26 =>
 Meet (Jz30 Q x3 x4 x5 x6 x8 v25 h26)):=by kernel_rfl
theorem Gza_eq (Q:AEnd→AH→Prop) (x3 x4 x5 x6 x8 x18 x21:V) (h:AH):Gza Q x3 x4 x5 x6 x8 x18 x21 h=(
 bindV (aPick x18 (V.bool true) x21 h) fun v23 h24 =>
 vcG v23 false (
 bindV (still (aFieldAddr Pg 38 x8 1) h24) fun v147 h148 =>
 bindV (aLoadV Pg h148 29 v147) fun v149 h150 =>
 bindV (aLoadV Pg h150 29 x3) fun v151 h152 =>
 bindV (still (aBin Pg .neq 29 v149 v151 false) h152) fun v153 h154 =>
 Meet (Gzb Q x3 x4 x5 x6 x8 v23 v153 h154)) (Meet (Gzb Q x3 x4 x5 x6 x8 v23 hole h24))):=by kernel_rfl
theorem S23 (Q:AEnd→AH→Prop) (a0 a1 a2:V) (h:AH):vc Pg N23 B23 K23 (vcRet Pg R23 Q) (initEnv 0 [a0,a1,a2]) h=(
 bindV (aNew Pg h 29 a0) fun v1 h2 =>
 bindV (aNew Pg h2 31 a1) fun v3 h4 =>
 bindV (aNew Pg h4 72 a2) fun v5 h6 =>
 bindV (aAlloc Pg h6 31) fun v7 h8 =>
 bindV (still (aFieldAddr Pg 72 v5 1) h8) fun v9 h10 =>
 bindV (aLoadV Pg h10 38 v9) fun v11 h12 =>
 bindV (aAlloc Pg h12 38) fun v13 h14 =>
 bindV (aStoreV Pg h14 38 v13 v11) fun _ h16 =>
 bindV (aLoadV Pg h16 38 v13) fun v17 h18 =>
 ACalls Pg 21 [v17] h18 (aEnd (fun v19 h20 =>
 bindV (still (aUn .not v19) h20) fun v21 h22 =>
 vcG v21 false (
 bindV (still (aFieldAddr Pg 38 v13 0) h22) fun v155 h156 =>
 bindV (aLoadV Pg h156 5 v155) fun v157 h158 =>
 bindV (still (aBin Pg .eql 5 v157 (V.int .u8 6) true) h158) fun v159 h160 =>
 Meet (Gza Q v1 v3 v5 v7 v13 v21 v159 h160)) (Meet (Gza Q v1 v3 v5 v7 v13 v21 hole h22))) fun v h=>Q (.panic v) h)):=by kernel_rfl
theorem C23 (Q:AEnd→AH→Prop) (a0 a1 a2:V) (h:AH) (c :
 bindV (aNew Pg h 29 a0) fun v1 h2 =>
 bindV (aNew Pg h2 31 a1) fun v3 h4 =>
 bindV (aNew Pg h4 72 a2) fun v5 h6 =>
 bindV (aAlloc Pg h6 31) fun v7 h8 =>
 bindV (still (aFieldAddr Pg 72 v5 1) h8) fun v9 h10 =>
 bindV (aLoadV Pg h10 38 v9) fun v11 h12 =>
 bindV (aAlloc Pg h12 38) fun v13 h14 =>
 bindV (aStoreV Pg h14 38 v13 v11) fun _ h16 =>
 bindV (aLoadV Pg h16 38 v13) fun v17 h18 =>
 ACalls Pg 21 [v17] h18 (aEnd (fun v19 h20 =>
 bindV (still (aUn .not v19) h20) fun v21 h22 =>
 vcG v21 false (
 bindV (still (aFieldAddr Pg 38 v13 0) h22) fun v155 h156 =>
 bindV (aLoadV Pg h156 5 v155) fun v157 h158 =>
 bindV (still (aBin Pg .eql 5 v157 (V.int .u8 6) true) h158) fun v159 h160 =>
 Meet (Gza Q v1 v3 v5 v7 v13 v21 v159 h160)) (Meet (Gza Q v1 v3 v5 v7 v13 v21 hole h22))) fun v h=>Q (.panic v) h)):ACalls Pg 23 [a0,a1,a2] h Q :=
 acalls_of_vc okP Try.func23 (show Try.f23.body=some B23 from by kernel_rfl) K23 (by rw [← S23 Q a0 a1 a2 h] at c;exact c)
end Go.Proofs.Ytdfgfbammkojoaa.Sh
namespace Go.Proofs.Ytdfgfbammkojoaa.Sh
open Go Go.Ab Go.RowKit
open Go.Proofs.Ytdfgfbammkojoaa.Ru (Pg okP)
open Go.Proofs.Ytdfgfbammkojoaa.Rcn (Rc vIm vRec vOld vRef imB c1 mayP shR flat_rec)
set_option maxRecDepth 10000
set_option maxHeartbeats 4000000
set_option linter.unusedSectionVars false
def Rc.onF (r:Rc) (p:List UInt8):List UInt8:=if r.k=1 then imB r.im else p
def dataF (r:Rc) (lsn:Nat) (d:Dt) (b:List UInt8):Dt:=if r.k=2 then ⟨lsn,r.ts.toNat,r.pp.toNat,c1 r.ps,b⟩ else { d with lsn:=lsn }
noncomputable def redoF (no:Nat) (p:List UInt8) (lsn:Nat) (r:Rc):Option (List UInt8) :=
 if ¬ dataOk no (Rc.onF r p) then none
 else if r.k=2∧(deltaF (gotD (Rc.onF r p)).body r.dl).1=false then none
 else some (putD no (dataF r lsn (gotD (Rc.onF r p)) (deltaF (gotD (Rc.onF r p)).body r.dl).2))
def redoV:Option (List UInt8)→V
 | some p=>.tup [.agg (bytesV p),.int .i64 0]
 | none=>.tup [.agg (bytesV (zer 224)),.int .i64 2]
def entV (lsn:Nat) (r:Rc):V:=.agg [.int .u64 lsn,r.v]
theorem shEnt (lsn:Nat) {r:Rc} (h:r.im.length=224):hasShape Pg (entV lsn r) 72=true:=by
 have:hasShape Pg (entV lsn r) 72=(hasShape Pg r.v 38 && true):=by kernel_rfl
 rw [this,shR r h];rfl
theorem beqPid (a b:Bool) (m n:Nat):beqV (pidV a m) (pidV b n)=some (decide (a=b∧m=n)):=by
 rw [show beqV (pidV a m) (pidV b n)=some ((a == b) && (((m:Int) == (n:Int)) && true)) from Rcn.bq_a (Rcn.beqVs_c Rcn.bq_b (Rcn.beqVs_c Rcn.bq_i Rcn.beqVs_n))]
 congr 1
 rw [Bool.eq_iff_iff]
 simp only [Bool.and_true,Bool.and_eq_true,beq_iff_eq,decide_eq_true_eq]
 exact and_congr_right fun _=>⟨fun h=>by omega,fun h=>by omega⟩
theorem neqPid (a b:Bool) (m n:Nat) (c:Bool):aBin Pg .neq 29 (pidV a m) (pidV b n) c=some (.bool (!(decide (a=b∧m=n)))):=by
 have h1:aBin Pg .neq 29 (pidV a m) (pidV b n) c=if eqOk Pg 29 (pidV a m) (pidV b n) c=true then (aEq Pg 29 (pidV a m) (pidV b n)).map (fun b=>.bool (!b)) else none:=rfl
 have h2:eqOk Pg 29 (pidV a m) (pidV b n) c=true:=by kernel_rfl
 have h3:plainT Pg 20 29=true:=by kernel_rfl
 rw [h1,h2,if_pos rfl]
 unfold aEq
 rw [h3,if_pos rfl,shPid,shPid,beqPid]
 rfl
theorem neqPid_self (a:Bool) (m:Nat) (c:Bool):aBin Pg .neq 29 (pidV a m) (pidV a m) c=some (.bool false):=by rw [neqPid];simp
theorem bPay:aBuild Pg 31 []=some (.agg (bytesV (zer 224))):=by kernel_rfl
theorem zRec:zeroV Pg 38=some (Rcn.rz 0):=Rcn.zero51
theorem flat_redo (o:Option (List UInt8)):flatB (redoV o)=true:=by
 cases o <;> simp only [redoV,flatB,flatBs,flat_bytes,Bool.and_self]
theorem getDV_t {no:Nat} {p:List UInt8} (h:dataOk no p):getDV no p=.tup [(gotD p).v,.int .i64 0]:=by rw [getDV,if_pos h]
theorem getDV_f {no:Nat} {p:List UInt8} (h:¬ dataOk no p):getDV no p=.tup [Dt.z.v,.int .i64 2]:=by rw [getDV,if_neg h]
theorem applyV_t {b d:List UInt8} (h:(deltaF b d).1=true):applyV b d=.tup [.agg (bytesV (deltaF b d).2),.int .i64 0]:=by rw [applyV,if_pos h]
theorem applyV_f {b d:List UInt8} (h:(deltaF b d).1=false):applyV b d=.tup [.agg (bytesV (zer 64)),.int .i64 2]:=by rw [applyV,if_neg (by rw [h];decide)]
theorem rc_lit (k:Int) (u:Bool) (n:Nat) (im:List Int) (ts pp ps:Int) (dl:List UInt8) (sl:Int) (lv:Bool) (op ots onp ons:Int) (od:List UInt8) :
   (⟨k,u,n,im,ts,pp,ps,dl,sl,lv,op,ots,onp,ons,od⟩:Rc).v=.agg [.int .u8 k,pidV u n,vIm im,.int .u32 ts,.agg [.int .u16 pp,.int .u8 ps],.str dl,.int .u8 sl,vOld lv op ots onp ons od]:=rfl
theorem redo1 {no lsn:Nat} {p:List UInt8} (r:Rc) (hp:p.length=224) (hno:no < 65536) (hl:lsn < 18446744073709551616) (o:r.ok) (hm:r.may=true) (hu:r.undo=false) (hn:r.no=no) (hk:r.k=2) (q:AEnd→Prop) (c:q (.ret (redoV (redoF no p lsn r)))) :
   ACalls Pg 23 [pidV false no,.agg (bytesV p),entV lsn r] AH0 fun e _=>q e:=by
 have sp:=shPid false no
 have sy:=shPay hp
 have se:=shEnt lsn o.im
 have sr:=shR r o.im
 have sr0:hasShape Pg (Rcn.rz 0) 38=true:=Rcn.shRz 0
 have sd0:=shDt zOk
 have hmp:=mayP r o.im
 rw [hm] at hmp
 obtain ⟨ots1,ots2⟩:=o.ts
 obtain ⟨opp1,opp2⟩:=o.pp
 obtain ⟨ops1,ops2⟩:=o.ps
 have hk6:¬ r.k=6:=by rw [hk];decide
 have hk1:¬ r.k=1:=by rw [hk];decide
 unfold redoF Rc.onF dataF at c
 simp only [if_neg hk1,if_pos hk] at c
 simp only [hk,true_and] at c
 have odl:r.dl.length≤66:=by
   unfold Rc.may at hm;simp only [Bool.and_eq_true,decide_eq_true_eq] at hm;exact hm.1.2
 have lsn0:0≤(lsn:Int):=by omega
 obtain ⟨k,u,rn,im,ts,pp,ps,dl,sl,lv,op,ots,onp,ons,od⟩:=r
 simp only at hu hn hk hk1 hk6 c ots1 ots2 opp1 opp2 ops1 ops2 odl
 subst hu hn hk
 rw [rc_lit] at hmp sr
 unfold entV at *
 rw [rc_lit] at se
 rw [rc_lit]
 have sbz:=shBody (zer_len 64)
 have spz:=shPay (zer_len 224)
 refine C23 _ _ _ _ _ ?_
 refine bindV_mk (new_mk sp) ?_
 refine bindV_mk (new_mk sy) ?_
 refine bindV_mk (new_mk se) ?_
 refine bindV_mk (al_mk zPay spz) ?_
 refine bindS_mk (fa_mk (by kernel_rfl)) ?_
 refine bindV_mk (ld_mk (by with_unfolding_all exact rfl) (by kernel_rfl) rfl) ?_
 refine bindV_mk (al_mk zRec sr0) ?_
 refine bindV_mk (st_mk (p:=[]) (by with_unfolding_all exact rfl) (by kernel_rfl) rfl sr rfl) ?_
 refine bindV_mk (ld_mk (p:=[]) (by with_unfolding_all exact rfl) (by kernel_rfl) rfl) ?_
 refine call_mk (hmp _) ?_
 have hget:=fun h=>getDP (no:=no) (p:=p) hp hno h
 by_cases e1:dataOk no p
 · simp only [e1,not_true_eq_false,if_false] at c
   rw [getDV_t e1] at hget
   have hdo:=gotD_ok hp
   obtain ⟨d,hd⟩:∃ d,gotD p=d:=⟨_,rfl⟩
   rw [hd] at hget hdo c
   obtain ⟨dlsn,dts,dpp,dps,dbody⟩:=d
   have sd:=shDt hdo
   have hap:=fun h=>applyP (b:=dbody) (d:=dl) hdo.body (by omega) h
   simp only at c hap
   by_cases c2:(deltaF dbody dl).1=true
   · rw [applyV_t c2] at hap
     have l2:=dGo_len dl (dl.length + 1) 0 0 dbody hdo.body
     obtain ⟨b2,hb2⟩:∃ b2,(deltaF dbody dl).2=b2:=⟨_,rfl⟩
     rw [show (dGo dl (dl.length + 1) 0 0 dbody).2=b2 from hb2] at l2
     rw [hb2] at hap c
     have sb2:=shBody l2
     simp only [c2,Bool.true_eq_false,if_false] at c
     have ok3:Dt.ok ⟨lsn,ts.toNat,pp.toNat,c1 ps,b2⟩:=⟨hl,by show ts.toNat < _;omega,by show pp.toNat < _;omega,l2⟩
     have sh3:hasShape Pg (.int .u32 ts) 32=true:=by kernel_rfl
     have e3:(⟨lsn,ts.toNat,pp.toNat,c1 ps,b2⟩:Dt).v=.agg [.int .u64 lsn,.int .u32 ts,.agg [.int .u16 pp,.int .u8 ps],.agg (bytesV b2)]:=by
       show V.agg [.int .u64 lsn,.int .u32 (ts.toNat:Nat),.agg [.int .u16 (pp.toNat:Nat),.int .u8 ((UInt8.ofNat ps.toNat).toNat:Nat)],.agg (bytesV b2)]=_
       rw [show ((ts.toNat:Nat):Int)=ts by omega,show ((pp.toNat:Nat):Int)=pp by omega,UInt8.toNat_ofNat_of_lt' (by simp [UInt8.size];omega),show ((ps.toNat:Nat):Int)=ps by omega]
     have hput:=fun h=>putDP hno ok3 h
     have sq:=shPay (putD_len no (d:=⟨lsn,ts.toNat,pp.toNat,c1 ps,b2⟩))
     rw [e3] at hput
     refine fS_nt ?_
     refine g_ff ?_
     refine fS_fa (by kernel_rfl) ?_
     refine fV_ld (by with_unfolding_all exact rfl) (by kernel_rfl) (by with_unfolding_all exact rfl) ?_
     refine fS_eql_f (by omega) ?_
     refine Meet.of (cast_p (Gza_eq ..) ?_)
     refine fV_pf ?_
     refine g_ff ?_
     refine fS_fa (by kernel_rfl) ?_
     refine fV_ld (by with_unfolding_all exact rfl) (by kernel_rfl) (by with_unfolding_all exact rfl) ?_
     refine fV_ld (by with_unfolding_all exact rfl) (by kernel_rfl) (by with_unfolding_all exact rfl) ?_
     refine bindS_mk (neqPid_self _ _ _) ?_
     refine Meet.of (cast_p (Gzb_eq ..) ?_)
     refine fV_pf ?_
     refine Meet.of (cast_p (Jz30_eq ..) ?_)
     refine i_f ?_
     refine Meet.of (cast_p (Jz31_eq ..) ?_)
     refine fS_fa (by kernel_rfl) ?_
     refine fV_ld (by with_unfolding_all exact rfl) (by kernel_rfl) (by with_unfolding_all exact rfl) ?_
     refine fS_eql_f (by omega) ?_
     refine i_f ?_
     refine Meet.of (cast_p (Jz32_eq ..) ?_)
     refine fS_fa (by kernel_rfl) ?_
     refine fV_ld (by with_unfolding_all exact rfl) (by kernel_rfl) (by with_unfolding_all exact rfl) ?_
     refine i_f ?_
     refine Meet.of (cast_p (Jz33_eq ..) ?_)
     refine fS_fa (by kernel_rfl) ?_
     refine fV_ld (by with_unfolding_all exact rfl) (by kernel_rfl) (by with_unfolding_all exact rfl) ?_
     refine fV_ld (by with_unfolding_all exact rfl) (by kernel_rfl) (by with_unfolding_all exact rfl) ?_
     refine call_mk (hget _) ?_
     refine fS_e0 ?_
     refine fS_e1 ?_
     refine bindV_mk (al_mk zDt sd0) ?_
     refine bindV_mk (st_mk (by with_unfolding_all exact rfl) (by kernel_rfl) (by with_unfolding_all exact rfl) sd (by with_unfolding_all exact rfl)) ?_
     refine fS_neq_f (by omega) ?_
     refine i_f ?_
     refine Meet.of (cast_p (Jz34_eq ..) ?_)
     refine fS_fa (by kernel_rfl) ?_
     refine fV_ld (by with_unfolding_all exact rfl) (by kernel_rfl) (by with_unfolding_all exact rfl) ?_
     refine fS_eql_t (by omega) ?_
     refine i_t ?_
     refine fS_fa (by kernel_rfl) ?_
     refine fV_ld (by with_unfolding_all exact rfl) (by kernel_rfl) (by with_unfolding_all exact rfl) ?_
     refine fS_fa (by kernel_rfl) ?_
     refine fV_ld (by with_unfolding_all exact rfl) (by kernel_rfl) (by with_unfolding_all exact rfl) ?_
     refine call_mk (hap _) ?_
     refine fS_e0 ?_
     refine fS_e1 ?_
     refine bindV_mk (al_mk zBody sbz) ?_
     refine bindV_mk (st_mk (by with_unfolding_all exact rfl) (by kernel_rfl) (by with_unfolding_all exact rfl) sb2 (by with_unfolding_all exact rfl)) ?_
     refine fS_neq_f (by omega) ?_
     refine i_f ?_
     refine Meet.of (cast_p (Jz35_eq ..) ?_)
     refine fO_fa (by kernel_rfl) ?_
     refine fW_ld (by with_unfolding_all exact rfl) (by kernel_rfl) (by with_unfolding_all exact rfl) ?_
     refine fO_fa (by kernel_rfl) ?_
     refine fW_ld (by with_unfolding_all exact rfl) (by kernel_rfl) (by with_unfolding_all exact rfl) ?_
     refine fW_ld (by with_unfolding_all exact rfl) (by kernel_rfl) (by with_unfolding_all exact rfl) ?_
     refine fO_fa (by kernel_rfl) ?_
     refine bindV_mk (st_mk (by with_unfolding_all exact rfl) (by kernel_rfl) (by with_unfolding_all exact rfl) sh3 (by with_unfolding_all exact rfl)) ?_
     refine fA_ld (by with_unfolding_all exact rfl) (by kernel_rfl) (by with_unfolding_all exact rfl) ?_
     refine fA_ld (by with_unfolding_all exact rfl) (by kernel_rfl) (by with_unfolding_all exact rfl) ?_
     refine fO_fa (by kernel_rfl) ?_
     refine bindV_mk (st_mk (by with_unfolding_all exact rfl) (by kernel_rfl) (by with_unfolding_all exact rfl) (by kernel_rfl) (by with_unfolding_all exact rfl)) ?_
     refine fA_ld (by with_unfolding_all exact rfl) (by kernel_rfl) (by with_unfolding_all exact rfl) ?_
     refine fO_fa (by kernel_rfl) ?_
     refine bindV_mk (st_mk (by with_unfolding_all exact rfl) (by kernel_rfl) (by with_unfolding_all exact rfl) sb2 (by with_unfolding_all exact rfl)) ?_
     refine Meet.of (cast_p (Jz36_eq ..) ?_)
     refine fS_fa (by kernel_rfl) ?_
     refine fV_ld (by with_unfolding_all exact rfl) (by kernel_rfl) (by with_unfolding_all exact rfl) ?_
     refine fS_fa (by kernel_rfl) ?_
     refine bindV_mk (st_mk (by with_unfolding_all exact rfl) (by kernel_rfl) (by with_unfolding_all exact rfl) (by kernel_rfl) (by with_unfolding_all exact rfl)) ?_
     refine fS_fa (by kernel_rfl) ?_
     refine fV_ld (by with_unfolding_all exact rfl) (by kernel_rfl) (by with_unfolding_all exact rfl) ?_
     refine fV_ld (by with_unfolding_all exact rfl) (by kernel_rfl) (by with_unfolding_all exact rfl) ?_
     refine call_mk (hput _) ?_
     refine bindV_mk (st_mk (by with_unfolding_all exact rfl) (by kernel_rfl) (by with_unfolding_all exact rfl) sq (by with_unfolding_all exact rfl)) ?_
     refine bindR_mk (by with_unfolding_all exact rfl) ?_
     exact c
   · have c2':=Bool.eq_false_iff.2 c2
     rw [applyV_f c2'] at hap
     simp only [c2',if_true] at c
     refine fS_nt ?_
     refine g_ff ?_
     refine fS_fa (by kernel_rfl) ?_
     refine fV_ld (by with_unfolding_all exact rfl) (by kernel_rfl) (by with_unfolding_all exact rfl) ?_
     refine fS_eql_f (by omega) ?_
     refine Meet.of (cast_p (Gza_eq ..) ?_)
     refine fV_pf ?_
     refine g_ff ?_
     refine fS_fa (by kernel_rfl) ?_
     refine fV_ld (by with_unfolding_all exact rfl) (by kernel_rfl) (by with_unfolding_all exact rfl) ?_
     refine fV_ld (by with_unfolding_all exact rfl) (by kernel_rfl) (by with_unfolding_all exact rfl) ?_
     refine bindS_mk (neqPid_self _ _ _) ?_
     refine Meet.of (cast_p (Gzb_eq ..) ?_)
     refine fV_pf ?_
     refine Meet.of (cast_p (Jz30_eq ..) ?_)
     refine i_f ?_
     refine Meet.of (cast_p (Jz31_eq ..) ?_)
     refine fS_fa (by kernel_rfl) ?_
     refine fV_ld (by with_unfolding_all exact rfl) (by kernel_rfl) (by with_unfolding_all exact rfl) ?_
     refine fS_eql_f (by omega) ?_
     refine i_f ?_
     refine Meet.of (cast_p (Jz32_eq ..) ?_)
     refine fS_fa (by kernel_rfl) ?_
     refine fV_ld (by with_unfolding_all exact rfl) (by kernel_rfl) (by with_unfolding_all exact rfl) ?_
     refine i_f ?_
     refine Meet.of (cast_p (Jz33_eq ..) ?_)
     refine fS_fa (by kernel_rfl) ?_
     refine fV_ld (by with_unfolding_all exact rfl) (by kernel_rfl) (by with_unfolding_all exact rfl) ?_
     refine fV_ld (by with_unfolding_all exact rfl) (by kernel_rfl) (by with_unfolding_all exact rfl) ?_
     refine call_mk (hget _) ?_
     refine fS_e0 ?_
     refine fS_e1 ?_
     refine bindV_mk (al_mk zDt sd0) ?_
     refine bindV_mk (st_mk (by with_unfolding_all exact rfl) (by kernel_rfl) (by with_unfolding_all exact rfl) sd (by with_unfolding_all exact rfl)) ?_
     refine fS_neq_f (by omega) ?_
     refine i_f ?_
     refine Meet.of (cast_p (Jz34_eq ..) ?_)
     refine fS_fa (by kernel_rfl) ?_
     refine fV_ld (by with_unfolding_all exact rfl) (by kernel_rfl) (by with_unfolding_all exact rfl) ?_
     refine fS_eql_t (by omega) ?_
     refine i_t ?_
     refine fS_fa (by kernel_rfl) ?_
     refine fV_ld (by with_unfolding_all exact rfl) (by kernel_rfl) (by with_unfolding_all exact rfl) ?_
     refine fS_fa (by kernel_rfl) ?_
     refine fV_ld (by with_unfolding_all exact rfl) (by kernel_rfl) (by with_unfolding_all exact rfl) ?_
     refine call_mk (hap _) ?_
     refine fS_e0 ?_
     refine fS_e1 ?_
     refine bindV_mk (al_mk zBody sbz) ?_
     refine bindV_mk (st_mk (by with_unfolding_all exact rfl) (by kernel_rfl) (by with_unfolding_all exact rfl) sbz (by with_unfolding_all exact rfl)) ?_
     refine fS_neq_t (by omega) ?_
     refine i_t ?_
     refine bindS_mk bPay ?_
     refine bindV_mk (st_mk (by with_unfolding_all exact rfl) (by kernel_rfl) (by with_unfolding_all exact rfl) spz (by with_unfolding_all exact rfl)) ?_
     refine bindR_mk (by with_unfolding_all exact rfl) ?_
     exact c
 · simp only [e1,not_false_eq_true,if_true] at c
   rw [getDV_f e1] at hget
   refine fS_nt ?_
   refine g_ff ?_
   refine fS_fa (by kernel_rfl) ?_
   refine fV_ld (by with_unfolding_all exact rfl) (by kernel_rfl) (by with_unfolding_all exact rfl) ?_
   refine fS_eql_f (by omega) ?_
   refine Meet.of (cast_p (Gza_eq ..) ?_)
   refine fV_pf ?_
   refine g_ff ?_
   refine fS_fa (by kernel_rfl) ?_
   refine fV_ld (by with_unfolding_all exact rfl) (by kernel_rfl) (by with_unfolding_all exact rfl) ?_
   refine fV_ld (by with_unfolding_all exact rfl) (by kernel_rfl) (by with_unfolding_all exact rfl) ?_
   refine bindS_mk (neqPid_self _ _ _) ?_
   refine Meet.of (cast_p (Gzb_eq ..) ?_)
   refine fV_pf ?_
   refine Meet.of (cast_p (Jz30_eq ..) ?_)
   refine i_f ?_
   refine Meet.of (cast_p (Jz31_eq ..) ?_)
   refine fS_fa (by kernel_rfl) ?_
   refine fV_ld (by with_unfolding_all exact rfl) (by kernel_rfl) (by with_unfolding_all exact rfl) ?_
   refine fS_eql_f (by omega) ?_
   refine i_f ?_
   refine Meet.of (cast_p (Jz32_eq ..) ?_)
   refine fS_fa (by kernel_rfl) ?_
   refine fV_ld (by with_unfolding_all exact rfl) (by kernel_rfl) (by with_unfolding_all exact rfl) ?_
   refine i_f ?_
   refine Meet.of (cast_p (Jz33_eq ..) ?_)
   refine fS_fa (by kernel_rfl) ?_
   refine fV_ld (by with_unfolding_all exact rfl) (by kernel_rfl) (by with_unfolding_all exact rfl) ?_
   refine fV_ld (by with_unfolding_all exact rfl) (by kernel_rfl) (by with_unfolding_all exact rfl) ?_
   refine call_mk (hget _) ?_
   refine fS_e0 ?_
   refine fS_e1 ?_
   refine bindV_mk (al_mk zDt sd0) ?_
   refine bindV_mk (st_mk (by with_unfolding_all exact rfl) (by kernel_rfl) (by with_unfolding_all exact rfl) sd0 (by with_unfolding_all exact rfl)) ?_
   refine fS_neq_t (by omega) ?_
   refine i_t ?_
   refine bindS_mk bPay ?_
   refine bindV_mk (st_mk (by with_unfolding_all exact rfl) (by kernel_rfl) (by with_unfolding_all exact rfl) spz (by with_unfolding_all exact rfl)) ?_
   refine bindR_mk (by with_unfolding_all exact rfl) ?_
   exact c
theorem redoP {no lsn:Nat} {p:List UInt8} (r:Rc) (hp:p.length=224) (hno:no < 65536) (hl:lsn < 18446744073709551616) (o:r.ok) (hm:r.may=true) (hu:r.undo=false) (hn:r.no=no) (hk:r.k=2) (h:AH) :
   ACalls Pg 23 [pidV false no,.agg (bytesV p),entV lsn r] h (pureE (redoV (redoF no p lsn r)) h) :=
 pure_lift (by simp only [pidV,entV,flatBs,flatB,flat_bytes,flat_rec,Bool.and_self]) (flat_redo _) (redo1 r hp hno hl o hm hu hn hk (fun e=>e=.ret _) rfl) h
end Go.Proofs.Ytdfgfbammkojoaa.Sh
namespace Go.Proofs.Ytdfgfbammkojoaa.Sh
open Go Go.Ab Go.RowKit
theorem bext {a b:List UInt8} (hl:a.length=b.length) (h:∀ i,i < a.length→a.getD i 0=b.getD i 0):a=b:=by
 apply List.ext_getElem hl
 intro i h1 h2
 have:=h i h1
 simpa [List.getD_eq_getElem?_getD,h1,h2] using this
theorem getD_cp {l ws:List UInt8} {s n:Nat} (h:s + n≤l.length) (i:Nat):(copyB l s n ws).getD i 0=if s≤i∧i < s + min ws.length n then ws.getD (i - s) 0 else l.getD i 0:=by
 unfold copyB
 have hm:min ws.length n≤n:=Nat.min_le_right ..
 have hm2:min ws.length n≤ws.length:=Nat.min_le_left ..
 generalize hk:min ws.length n=k at *
 simp only [List.getD_eq_getElem?_getD]
 by_cases h1:i < s
 · rw [if_neg (by omega),List.append_assoc,List.getElem?_append_left (by simp;omega),List.getElem?_take,if_pos h1]
 · have e1:(l.take s).length=s:=by simp;omega
   by_cases h2:i < s + k
   · rw [if_pos ⟨by omega,h2⟩,List.append_assoc,List.getElem?_append_right (by omega),e1,List.getElem?_append_left (by simp;omega),List.getElem?_take,if_pos (by omega)]
   · have e2:(l.take s++ws.take k).length=s + k:=by rw [List.length_append,e1];simp;omega
     rw [if_neg (by omega),List.getElem?_append_right (by omega),e2,List.getElem?_drop]
     congr 2;omega
theorem getD_pa {p s:List UInt8} {a:Nat} (hp:p.length=224) (ha:a + s.length≤224) (i:Nat):(putAt p a s).getD i 0=if a≤i∧i < a + s.length then s.getD (i - a) 0 else p.getD i 0:=by
 unfold putAt
 rw [getD_cp (by omega),show min s.length (224 - a)=s.length by omega]
theorem slice_map {s:List UInt8} {a n:Nat} (h:a + n≤s.length):(s.drop a).take n=(List.range n).map fun i=>s.getD (a + i) 0:=by
 apply List.ext_getElem
 · simp;omega
 · intro i h1 h2
   have hi:i < n:=by simpa using h2
   simp [List.getD_eq_getElem?_getD,show a + i < s.length by omega]
theorem putL_succ (v n:Nat):putL v (n + 1)=leB v 0 :: putL (v / 256) n:=by
 unfold putL
 rw [List.range_succ_eq_map]
 simp only [List.map_cons,List.map_map]
 congr 1
 apply List.map_congr_left
 intro k _
 show leB v (k + 1)=leB (v / 256) k
 unfold leB
 rw [Nat.div_div_eq_div_mul,show 8 * (k + 1)=8 + 8 * k by omega,Nat.pow_add]
theorem leN_putL (n:Nat):∀ v:Nat,leN (putL v n)=v % 256 ^ n:=by
 induction n with
 | zero=>intro v;simp [putL,leN,Nat.mod_one]
 | succ n ih =>
   intro v
   rw [putL_succ,leN,ih]
   have e:(leB v 0).toNat=v % 256:=by unfold leB;simp
   rw [e,Nat.pow_succ,Nat.mul_comm (256 ^ n) 256,Nat.mod_mul]
theorem getW_put {p:List UInt8} {a n v:Nat} (h1:a + n≤p.length) (h:∀ i,i < n→p.getD (a + i) 0=(putL v n).getD i 0) (hv:v < 256 ^ n):getW p a n=v:=by
 unfold getW
 rw [slice_map h1]
 have e:(List.range n).map (fun i=>p.getD (a + i) 0)=putL v n:=by
   apply bext (by simp [putL])
   intro i hi
   have hi:i < n:=by simpa using hi
   rw [← h i hi]
   simp [List.getD_eq_getElem?_getD,hi]
 rw [e,leN_putL,Nat.mod_eq_of_lt hv]
theorem getD_set0 {p:List UInt8} (hp:p.length=224) (k:UInt8) (i:Nat):(p.set 0 k).getD i 0=if i=0 then k else p.getD i 0:=by
 simp only [List.getD_eq_getElem?_getD,List.getElem?_set]
 by_cases h:i=0
 · subst h;simp [hp]
 · rw [if_neg (fun e=>h e.symm),if_neg h]
theorem sum_same {p q:List UInt8} (hp:p.length=224) (hq:q.length=224) (h:∀ i,¬ (3≤i∧i < 7)→p.getD i 0=q.getD i 0):sumF p=sumF q:=by
 unfold sumF
 congr 1
 have l1:(copyB p 3 (7 - 3) (zer 4)).length=p.length:=copyB_len (by omega)
 have l2:(copyB q 3 (7 - 3) (zer 4)).length=q.length:=copyB_len (by omega)
 apply bext (by omega)
 intro i hi
 rw [getD_cp (by omega),getD_cp (by omega),zer_len]
 split
 · rfl
 · rename_i g
   exact h i (by omega)
theorem sumF_lt (p:List UInt8):sumF p < 4294967296:=crcS_lt _
theorem seal_get {kind:UInt8} {no lsn:Nat} {p:List UInt8} (hp:p.length=224) (i:Nat):(sealF kind no lsn p).getD i 0 =
   if i=0 then kind else if 1≤i∧i < 3 then (putL no 2).getD (i - 1) 0 else if 7≤i∧i < 15 then (putL lsn 8).getD (i - 7) 0 else if 3≤i∧i < 7 then (putL (sumF (sealF kind no lsn p)) 4).getD (i - 3) 0 else p.getD i 0:=by
 have h0:(p.set 0 kind).length=224:=by simpa using hp
 have h1:(putAt (p.set 0 kind) 1 (putL no 2)).length=224:=putAt_len h0 (by omega)
 have h2:(putAt (putAt (p.set 0 kind) 1 (putL no 2)) 7 (putL lsn 8)).length=224:=putAt_len h1 (by omega)
 have e:sumF (sealF kind no lsn p)=sumF (putAt (putAt (p.set 0 kind) 1 (putL no 2)) 7 (putL lsn 8)):=by
   refine sum_same (sealF_len hp) h2 fun i hi=>?_
   unfold sealF
   simp only
   rw [getD_pa h2 (by simp [putL_len]),putL_len,if_neg (by omega)]
 rw [e]
 unfold sealF
 simp only
 rw [getD_pa h2 (by simp [putL_len]),getD_pa h1 (by simp [putL_len]),getD_pa h0 (by simp [putL_len]),getD_set0 hp]
 simp only [putL_len]
 by_cases g0:i=0
 · subst g0;simp
 · by_cases g1:1≤i∧i < 3
   · rw [if_neg (by omega),if_neg (by omega),if_pos (by omega),if_neg g0,if_pos g1]
   · by_cases g7:7≤i∧i < 15
     · rw [if_neg (by omega),if_pos (by omega),if_neg g0,if_neg g1,if_pos g7]
     · by_cases g3:3≤i∧i < 7
       · rw [if_pos (by omega),if_neg g0,if_neg g1,if_neg g7,if_pos g3]
       · rw [if_neg (by omega),if_neg (by omega),if_neg (by omega),if_neg g0,if_neg g0,if_neg g1,if_neg g7,if_neg g3]
theorem seal_opens {kind:UInt8} {no lsn:Nat} {p:List UInt8} (hp:p.length=224) (hno:no < 65536):opensF kind no (sealF kind no lsn p):=by
 have hl:=sealF_len (kind:=kind) (no:=no) (lsn:=lsn) hp
 refine ⟨by rw [seal_get hp,if_pos rfl],?_,?_⟩
 · refine getW_put (by omega) (fun i hi=>?_) (by simpa using hno)
   rw [seal_get hp,if_neg (by omega),if_pos (by omega),show 1 + i - 1=i by omega]
 · refine getW_put (by omega) (fun i hi=>?_) (sumF_lt _)
   rw [seal_get hp,if_neg (by omega),if_neg (by omega),if_neg (by omega),if_pos (by omega),show 3 + i - 3=i by omega]
theorem seal_lsn {kind:UInt8} {no lsn:Nat} {p:List UInt8} (hp:p.length=224) (hl:lsn < 18446744073709551616):getW (sealF kind no lsn p) 7 8=lsn:=by
 have hl':=sealF_len (kind:=kind) (no:=no) (lsn:=lsn) hp
 refine getW_put (by omega) (fun i hi=>?_) hl
 rw [seal_get hp,if_neg (by omega),if_neg (by omega),if_pos (by omega),show 7 + i - 7=i by omega]
theorem seal_rest {kind:UInt8} {no lsn:Nat} {p:List UInt8} (hp:p.length=224) {i:Nat} (hi:15≤i):(sealF kind no lsn p).getD i 0=p.getD i 0:=by
 rw [seal_get hp,if_neg (by omega),if_neg (by omega),if_neg (by omega),if_neg (by omega)]
theorem zer_get (n i:Nat):(zer n).getD i 0=0:=by
 unfold zer
 simp only [List.getD_eq_getElem?_getD,List.getElem?_replicate]
 split <;> rfl
def bodD (d:Dt):List UInt8:=putAt ((putAt (putAt (zer 224) 15 (putL d.ts 4)) 19 (putL d.pp 2)).set 21 d.ps) 22 d.body
theorem putD_eq (no:Nat) (d:Dt):putD no d=sealF 1 no d.lsn (bodD d):=rfl
theorem bodD_len {d:Dt} (hd:d.body.length=64):(bodD d).length=224:=putAt_len (by rw [List.length_set];exact putAt_len (putAt_len (zer_len _) (by omega)) (by omega)) (by omega)
theorem bodD_get {d:Dt} (hd:d.body.length=64) (i:Nat):(bodD d).getD i 0=if 22≤i∧i < 86 then d.body.getD (i - 22) 0 else if i=21 then d.ps else if 19≤i∧i < 21 then (putL d.pp 2).getD (i - 19) 0 else if 15≤i∧i < 19 then (putL d.ts 4).getD (i - 15) 0 else 0:=by
 have h1:(putAt (zer 224) 15 (putL d.ts 4)).length=224:=putAt_len (zer_len _) (by omega)
 have h2:(putAt (putAt (zer 224) 15 (putL d.ts 4)) 19 (putL d.pp 2)).length=224:=putAt_len h1 (by omega)
 unfold bodD
 rw [getD_pa (by simpa using h2) (by omega),hd]
 have e:∀ j:Nat,((putAt (putAt (zer 224) 15 (putL d.ts 4)) 19 (putL d.pp 2)).set 21 d.ps).getD j 0=if j=21 then d.ps else (putAt (putAt (zer 224) 15 (putL d.ts 4)) 19 (putL d.pp 2)).getD j 0:=by
   intro j
   simp only [List.getD_eq_getElem?_getD,List.getElem?_set]
   by_cases h:j=21
   · subst h;simp [h2]
   · rw [if_neg (fun e=>h e.symm),if_neg h]
 rw [e,getD_pa h1 (by simp [putL_len]),getD_pa (zer_len _) (by simp [putL_len]),zer_get]
 simp only [putL_len]
theorem putD_ok {no:Nat} {d:Dt} (hno:no < 65536) (ok:d.ok):dataOk no (putD no d):=by
 have hb:d.body.length=64:=ok.body
 refine ⟨seal_opens (bodD_len hb) hno,fun i hi=>?_⟩
 have hl:(putD no d).length=224:=putD_len no
 rw [List.length_drop,hl] at hi
 have e:((putD no d).drop 86).getD i 0=(putD no d).getD (86 + i) 0:=by simp [List.getD_eq_getElem?_getD]
 rw [e,putD_eq,seal_rest (bodD_len hb) (by omega),bodD_get hb,if_neg (by omega),if_neg (by omega),if_neg (by omega),if_neg (by omega)]
theorem putD_lsn {no:Nat} {d:Dt} (ok:d.ok):getW (putD no d) 7 8=d.lsn:=by
 rw [putD_eq];exact seal_lsn (bodD_len ok.body) ok.lsn
theorem gotD_put {no:Nat} {d:Dt} (ok:d.ok):gotD (putD no d)=d:=by
 have hb:d.body.length=64:=ok.body
 have hl:(putD no d).length=224:=putD_len no
 have hr:∀ i,15≤i→(putD no d).getD i 0=(bodD d).getD i 0:=fun i hi=>by rw [putD_eq];exact seal_rest (bodD_len hb) hi
 have e1:=putD_lsn (no:=no) ok
 have e2:getW (putD no d) 15 4=d.ts:=getW_put (by omega) (fun i hi=>by rw [hr _ (by omega),bodD_get hb,if_neg (by omega),if_neg (by omega),if_neg (by omega),if_pos (by omega),show 15 + i - 15=i by omega]) ok.ts
 have e3:getW (putD no d) 19 2=d.pp:=getW_put (by omega) (fun i hi=>by rw [hr _ (by omega),bodD_get hb,if_neg (by omega),if_neg (by omega),if_pos (by omega),show 19 + i - 19=i by omega]) ok.pp
 have e4:(putD no d).getD 21 0=d.ps:=by rw [hr _ (by omega),bodD_get hb,if_neg (by omega),if_pos rfl]
 have e5:((putD no d).drop 22).take 64=d.body:=by
   apply bext (by simp [hl,hb])
   intro i hi
   have hi:i < 64:=by simp at hi;omega
   have:(((putD no d).drop 22).take 64).getD i 0=(putD no d).getD (22 + i) 0:=by
     simp [List.getD_eq_getElem?_getD,List.getElem?_take,hi]
   rw [this,hr _ (by omega),bodD_get hb,if_pos (by omega),show 22 + i - 22=i by omega]
 unfold gotD
 rw [e1,e2,e3,e4,e5]
end Go.Proofs.Ytdfgfbammkojoaa.Sh
