import Derived.Test.YtdfgfbammkojoaaF13
import Derived.Test.YtdfgfbammkojoaaF16
import Derived.Test.YtdfgfbammkojoaaF14
import Derived.Test.YtdfgfbammkojoaaF15
import Derived.Test.YtdfgfbammkojoaaF06
set_option linter.unusedVariables false
set_option linter.unusedSimpArgs false
namespace Go.Proofs.Ytdfgfbammkojoaa.Sh
open Go Go.Ab Go.RowKit
open Go.Proofs.Ytdfgfbammkojoaa.Ru (Pg okP)
open Go.Proofs.Ytdfgfbammkojoaa.Rcn (Rc vIm vRec vOld vRef imB c1 mayP encP encRes shR flat_rec)
set_option maxRecDepth 10000
set_option maxHeartbeats 4000000
set_option linter.unusedSectionVars false
structure Cfg where
 pages:Nat
 undo:Nat
 log:Nat
 maxts:Nat
structure BsN where
 c:CaN
 pc:Nat
 pr:Nat
def cfV (f:Cfg):V:=.agg [.int .i64 f.pages,.int .i64 f.undo,.int .i64 f.log,.int .u32 f.maxts]
abbrev roP (p:Nat):V:=.ptr (some ⟨p,.one 164,[]⟩)
def bsV (n:BsN) (f:Cfg):V:=.agg [dkP n.c.d,lgP n.c.l,caP n.pc,roP n.pr,cfV f]
abbrev bsP (p:Nat):V:=.ptr (some ⟨p,.one 68,[]⟩)
structure BsA (h:AH) (p:Nat) (n:BsN) (f:Cfg) (c:Ca):Prop where
 base:h.m p=some (.cells true (.one 68) (bsV n f))
 ca:CaA h n.pc n.c c
 o:p < h.next
abbrev TBs:Tags:=(0,68,0) :: TCa
theorem BsA.keep {T:Tags} {h h':AH} {p:Nat} {n:BsN} {f:Cfg} {c:Ca} (k:BsA h p n f c) (q:Keeps T h h') (ht:outT TBs T=true):BsA h' p n f c:=by
 obtain ⟨k1,k2,o⟩:=k
 have:=q.next
 refine ⟨q.at k1 o (outT_at ht rfl),k2.keep q ?_,by omega⟩
 unfold outT at ht ⊢
 rw [List.all_cons,Bool.and_eq_true] at ht
 exact ht.2
theorem BsA.ca_new {T:Tags} {h h':AH} {p:Nat} {n:BsN} {f:Cfg} {c c':Ca} (k:BsA h p n f c) (q:Keeps T h h') (ht:T.contains (0,68,0)=false) (a:CaA h' n.pc n.c c'):BsA h' p n f c' :=
 ⟨q.at k.base k.o ht,a,by have:=q.next;have:=k.o;omega⟩
theorem CaA.ok {h:AH} {p:Nat} {n:CaN} {c:Ca} (k:CaA h p n c):c.ok:=by obtain ⟨lv,k⟩:=k;exact k.ok
theorem nnBs (p:Nat):aBin Pg .eql 24 (bsP p) (.ptr none) true=some (.bool false):=by kernel_rfl
section
variable {h:AH} {p:Nat} {n:BsN} {f:Cfg} {c:Ca}
theorem bsLog (k:BsA h p n f c):ACalls Pg 7 [bsP p] h (pureE (lgP n.c.l) h):=by
 have f0:=k.base
 refine C7 _ _ _ ?_
 refine bindS_mk (nnBs p) ?_
 refine i_f ?_
 refine Meet.of (cast_p (Jz6t_eq ..) ?_)
 refine fV_nil ?_
 refine fS_fa (by kernel_rfl) ?_
 refine fV_ld f0 (by kernel_rfl) rfl ?_
 exact ⟨rfl,rfl⟩
theorem bsCache (k:BsA h p n f c):ACalls Pg 9 [bsP p] h (pureE (caP n.pc) h):=by
 have f0:=k.base
 refine C9 _ _ _ ?_
 refine bindS_mk (nnBs p) ?_
 refine i_f ?_
 refine Meet.of (cast_p (Jz75_eq ..) ?_)
 refine fV_nil ?_
 refine fS_fa (by kernel_rfl) ?_
 refine fV_ld f0 (by kernel_rfl) rfl ?_
 exact ⟨rfl,rfl⟩
theorem noteDP (no:Nat) {x:List UInt8} (hx:x.length=224) (v:V) (h:AH):ACalls Pg 28 [v,pidV false no,.agg (bytesV x)] h (Gives [] h (.tup []) fun _=>True):=by
 refine C28 _ _ _ _ _ ?_
 refine bindE (new_at (shPid false no)) fun h1 u1=>?_
 have n1:=u1.next
 have q1:Keeps [] h h1:=Keeps.new u1
 refine bindE (new_at (shPay hx)) fun h2 u2=>?_
 have q2:Keeps [] h1 h2:=Keeps.new u2
 have f1:=q2.at u1.at_ (by omega) rfl
 refine fS_fa (by kernel_rfl) ?_
 refine fV_ld f1 (by kernel_rfl) (w:=.bool false) rfl ?_
 refine i_f ?_
 exact ⟨rfl,q1.trans q2,trivial⟩
end
def imgR (no:Nat) (p:List UInt8):Rc:={ Rc.z 1 with no:=no,im:=p.map fun b=>(b.toNat:Int) }
theorem vIm_map (p:List UInt8):vIm (p.map fun b=>(b.toNat:Int))=.agg (bytesV p):=by
 unfold vIm bytesV
 rw [List.map_map];rfl
theorem imgR_v (no:Nat) (p:List UInt8):(imgR no p).v=.agg [.int .u8 1,pidV false no,.agg (bytesV p),.int .u32 0,.agg [.int .u16 0,.int .u8 0],.str [],.int .u8 0,vOld false 0 0 0 0 []]:=by
 rw [← vIm_map];rfl
theorem imgR_ok {no:Nat} {p:List UInt8} (hno:no < 65536) (hp:p.length=224):(imgR no p).ok:=by
 refine ⟨by simpa [imgR] using hp,fun x hx=>?_,by simp [imgR,Rc.z],⟨by show (0:Int)≤(no:Int);omega,by show (no:Int) < 65536;omega⟩,by simp [imgR,Rc.z],by simp [imgR,Rc.z],by simp [imgR,Rc.z],by simp [imgR,Rc.z],by simp [imgR,Rc.z],by simp [imgR,Rc.z],by simp [imgR,Rc.z],by simp [imgR,Rc.z],by simp [imgR,Rc.z],by simp [imgR,Rc.z]⟩
 simp only [imgR,List.mem_map] at hx
 obtain ⟨b,_,rfl⟩:=hx
 have:=b.toNat_lt
 omega
theorem imgR_may (no:Nat) (p:List UInt8):(imgR no p).may=true:=by
 have e:(imgR no p).bare=imgR no p:=rfl
 unfold Rc.may
 rw [e]
 simp [imgR,Rc.z]
theorem bldImg (no:Nat) {p:List UInt8} (hp:p.length=224):aBuild Pg 38 [(0,.int .u8 1),(1,pidV false no),(2,.agg (bytesV p))]=some (imgR no p).v:=by
 have h1:=shPid false no
 have h2:=shPay hp
 rw [imgR_v]
 refine bld_struct [5,29,31,32,34,9,5,36] zRec (by kernel_rfl) ?_
 have h3:hasShape Pg (.int .u8 1) 5=true:=by kernel_rfl
 simp [putParts,h1,h2,h3,Rcn.rz,Rc.z,Rc.v,vRec,vOld,vRef]
noncomputable def rtD (no:Nat) (p:List UInt8):Bool:=decide (dataOk no p)
noncomputable def blD (no:Nat):List UInt8:=putD no Dt.z
noncomputable def Ca.fetchD (c:Ca) (no:Nat):(List UInt8 × Int) × Ca:=c.fetchN (rtD no) (blD no) (false,no)
def Ca.unhold (c:Ca) (i:Pid):Ca:=match kget c.at_ i with
 | some j=>{ c with ck:={ c.ck with pins:=c.ck.pins.set j (c.ck.pins.getD j 0 - 1) } }
 | none=>c
def Ca.putP (c:Ca) (i:Pid) (x:List UInt8):Ca:=match kget c.at_ i with
 | some j=>{ c with fr:=c.fr.set j ((c.frame j).put x) }
 | none=>c
def Ca.holds (c:Ca) (i:Pid) (x:List UInt8):Prop:=∃ j,kget c.at_ i=some j∧j < c.fr.length∧0 < c.ck.pins.getD j 0∧(c.frame j).p=x
theorem hold_pins {c:Ca} {j:Nat} (hj:j < c.ck.pins.length):0 < (c.hold j).ck.pins.getD j 0:=by
 unfold Ca.hold
 simp [List.getD_eq_getElem?_getD,List.getElem?_set,hj]
theorem fetchN_holds {rt:List UInt8→Bool} {bl:List UInt8} {c:Ca} {i:Pid} (o:c.ok) (hnf:kget c.at_ i=none→c.fr.length < c.most) (h:(c.fetchN rt bl i).1.2=0):(c.fetchN rt bl i).2.holds i (c.fetchN rt bl i).1.1:=by
 have hm:=o.most
 have hl:=o.len
 unfold Ca.fetchN at h ⊢
 by_cases g:c.isF i
 · rw [if_pos g] at h ⊢
   cases hk:kget c.at_ i with
   | some j =>
     have hj:=o.lt hk
     exact ⟨j,hk,hj,hold_pins (by show j < c.ck.n;omega),rfl⟩
   | none =>
     have hlt:=hnf hk
     rw [hk] at h
     by_cases e:(c.dk.read (c.place i)).2.1=0
     · simp only [if_pos e]
       refine ⟨c.fr.length,?_,?_,?_,?_⟩
       · show kget (kset c.at_ i c.fr.length) i=_
         rw [kget_set,if_pos rfl]
       · show _ < (c.fr++[_]).length
         simp
       · exact hold_pins (by show c.fr.length < c.ck.n;omega)
       · show ((c.fr++[_])[c.fr.length]?.getD zFr).p=_
         rw [List.getElem?_append_right (Nat.le_refl _),Nat.sub_self];rfl
     · simp only [if_neg e] at h
       exact absurd h e
 · rw [if_neg g] at h
   exact absurd h (show ¬ (1:Int)=0 by decide)
end Go.Proofs.Ytdfgfbammkojoaa.Sh
namespace Go.Proofs.Ytdfgfbammkojoaa.Sh
open Go Go.Ab Go.RowKit
open Go.Proofs.Ytdfgfbammkojoaa.Ru (Pg okP)
open Go.Proofs.Ytdfgfbammkojoaa.Rcn (Rc vIm vRec vOld vRef imB c1 mayP encP encRes shR flat_rec)
set_option maxRecDepth 10000
set_option maxHeartbeats 4000000
set_option linter.unusedSectionVars false
noncomputable def Ca.laid (c:Ca) (no:Nat) (r:Rc) (x:List UInt8):Rc:=if c.clean (false,no) then imgR no x else r
noncomputable def Ca.changeD (c:Ca) (r:Rc):Int × Ca :=
 if r.may then
   if (c.fetchD r.no.toNat).1.2=0 then
     match redoF r.no.toNat (c.fetchD r.no.toNat).1.1 (c.fetchD r.no.toNat).2.lg.fin r with
     | none=>(2,(c.fetchD r.no.toNat).2.unhold (false,r.no.toNat))
     | some x =>
       if ((c.fetchD r.no.toNat).2.lg.append ((c.fetchD r.no.toNat).2.laid r.no.toNat r x).enc).1.2=0 then
         (0,(({ (c.fetchD r.no.toNat).2 with lg:=((c.fetchD r.no.toNat).2.lg.append ((c.fetchD r.no.toNat).2.laid r.no.toNat r x).enc).2 }:Ca).putP (false,r.no.toNat) x).unhold (false,r.no.toNat))
       else (((c.fetchD r.no.toNat).2.lg.append ((c.fetchD r.no.toNat).2.laid r.no.toNat r x).enc).1.2,(c.fetchD r.no.toNat).2.unhold (false,r.no.toNat))
   else ((c.fetchD r.no.toNat).1.2,(c.fetchD r.no.toNat).2)
 else (1,c)
theorem may2 {r:Rc} (hm:r.may=true) (hk:r.k=2):r.undo=false∧r.dl.length≤66:=by
 unfold Rc.may at hm
 simp only [Bool.and_eq_true,decide_eq_true_eq] at hm
 obtain ⟨⟨⟨⟨h1,h2⟩,h3⟩,h4⟩,h5⟩:=hm
 refine ⟨?_,h4⟩
 have:=congrArg Rc.undo h3
 unfold Rc.bare at this
 rw [if_neg (by omega),if_pos hk] at this
 exact this.symm
abbrev TBc:Tags:=[(0,99,0),(1,102,0),(2,29,3),(0,119,0),(1,4,0),(1,3,0),(0,89,0),(1,172,0)]
structure Ca.fit (c:Ca):Prop where
 ops:c.dk.ops < 900000000000
 pins:∀ x∈c.ck.pins,x < 900000
 num:c.lg.num < 4294960000
 fin:c.lg.fin < 18446744073709000000
 sealed:c.lg.sealed.length≤900000
 opn:c.lg.opn.length < 214
theorem enc_len {r:Rc} (hm:r.may=true) (o:r.ok):r.enc.length < 1000000:=by
 unfold Rc.may at hm
 simp only [Bool.and_eq_true,decide_eq_true_eq] at hm
 obtain ⟨⟨⟨⟨h1,h2⟩,h3⟩,h4⟩,h5⟩:=hm
 have hi:=o.im
 have ht:Rcn.trimTo r.im 224≤224:=by
   have:∀ (l:List Int) (n:Nat),Rcn.trimTo l n≤n:=by
     intro l n
     induction n with
     | zero=>exact Nat.le_refl _
     | succ n ih=>unfold Rcn.trimTo;split <;> omega
   exact this _ _
 unfold Rc.enc
 split
 · simp only [List.length_cons,List.length_append,Rcn.lay_len,Rcn.imB,List.length_map,List.length_take];omega
 · split
   · simp only [List.length_cons,List.length_append,Rcn.lay_len];omega
   · split
     · simp only [List.length_cons,List.length_append,Rcn.lay_len];omega
     · split
       · simp only [List.length_cons,Rcn.lay_len];omega
       · simp only [List.length_cons,List.length_append,Rcn.lay_len,List.length_nil];omega
section
variable {h:AH} {p:Nat} {n:BsN} {f:Cfg} {c:Ca}
theorem fetchN_lg (rt:List UInt8→Bool) (bl:List UInt8) (c:Ca) (i:Pid):(c.fetchN rt bl i).2.lg=c.lg:=by
 unfold Ca.fetchN
 split
 · split
   · rfl
   · split <;> rfl
 · rfl
theorem leaveP {Q:AEnd→AH→Prop} {h:AH} {n:BsN} {c:Ca} {i:Pid} {x:List UInt8} {e:Int} (k:CaA h n.pc n.c c) (hh:c.holds i x) (q:∀ h',Keeps TI h h'→CaA h' n.pc n.c (c.unhold i)→Q (.ret (.int .i64 e)) h') :
   aLeaves Pg R5 Q [.int .i64 e] [(22,[caP n.pc,pV i])] none h:=by
 obtain ⟨lv,k⟩:=k
 obtain ⟨j,h1,h2,h3,h4⟩:=hh
 refine adc_of (by kernel_rfl) (acallsD_mono (caUnpinD k i h1 h3) fun e' h' g=>⟨_,g.1,?_⟩)
 refine bindR_mk (show aResV Pg h' R5 [.int .i64 e]=some [.int .i64 e] from rfl) ?_
 refine q h' g.2.1 ⟨lv,?_⟩
 unfold Ca.unhold
 rw [h1];exact g.2.2
theorem putP_holds {c:Ca} {i:Pid} {x y:List UInt8} (h:c.holds i x):(c.putP i y).holds i y:=by
 obtain ⟨j,h1,h2,h3,h4⟩:=h
 unfold Ca.putP
 rw [h1]
 refine ⟨j,h1,by simpa using h2,h3,?_⟩
 show ((c.fr.set j _)[j]?.getD zFr).p=y
 rw [List.getElem?_set,if_pos rfl,if_pos h2];rfl
theorem bsChangeD (k:BsA h p n f c) (own:OwnAll h) {r:Rc} (o:r.ok) (hk:r.k=2) (b:c.fit) (hnf:kget c.at_ (false,r.no.toNat)=none→c.fr.length < c.most) :
   ACalls Pg 5 [bsP p,r.v] h (Gives TBc h (.int .i64 (c.changeD r).1) fun h'=>BsA h' p n f (c.changeD r).2):=by
 have hno:r.no=((r.no.toNat:Nat):Int):=by have:=o.no;omega
 have hno2:r.no.toNat < 65536:=by have:=o.no;omega
 have shr:=shR r o.im
 refine C5 _ _ _ _ ?_
 refine bindE (new_at shr) fun h1 u1=>?_
 have n1:=u1.next
 have q1:Keeps [] h h1:=Keeps.new u1
 have f1:=u1.at_
 have k1:=k.keep q1 rfl
 refine bindS_mk (nnBs p) ?_
 refine g_ff ?_
 refine fV_ld f1 (by kernel_rfl) (w:=r.v) rfl ?_
 refine callS (mayP r o.im h1) ?_
 by_cases hm:r.may=true
 case neg =>
   have hm:r.may=false:=by simpa using hm
   have e:c.changeD r=(1,c):=by unfold Ca.changeD;rw [if_neg (by rw [hm];decide)]
   rw [e,hm]
   refine fS_nf ?_
   refine Meet.of (cast_p (Gz1d_eq ..) ?_)
   refine fV_pf ?_
   refine g_tf ?_
   refine Meet.of (cast_p (Gz1e_eq ..) ?_)
   refine fV_pt ?_
   refine g_tf ?_
   refine Meet.of (cast_p (Gz1f_eq ..) ?_)
   refine fV_pt ?_
   refine Meet.of (cast_p (Jz61_eq ..) ?_)
   refine i_t ?_
   refine bindR_mk (show aResV Pg h1 R5 [.int .i64 1]=some [.int .i64 1] from rfl) ?_
   exact ⟨rfl,q1.sub rfl,k1⟩
 rw [hm]
 obtain ⟨hu,hdl⟩:=may2 hm hk
 have ev:r.v=.agg [.int .u8 2,pidV false r.no.toNat,vIm r.im,.int .u32 r.ts,.agg [.int .u16 r.pp,.int .u8 r.ps],.str r.dl,.int .u8 r.sl,vOld r.live r.op r.ots r.onp r.ons r.od]:=by
   obtain ⟨k',un,no,im,ts,pp,ps,dl,sl,lv,op,ots,onp,ons,od⟩:=r
   have hk:k'=2:=hk
   have hu:un=false:=hu
   have hno:no=((no.toNat:Nat):Int):=hno
   subst hk hu
   show V.agg [_,.agg [_,.int .u16 no],_,_,_,_,_,_]=.agg [_,.agg [_,.int .u16 ((no.toNat:Nat):Int)],_,_,_,_,_,_]
   rw [← hno];rfl
 have g1:h1.m h.next=some (.cells true (.one 38) (.agg [.int .u8 2,pidV false r.no.toNat,vIm r.im,.int .u32 r.ts,.agg [.int .u16 r.pp,.int .u8 r.ps],.str r.dl,.int .u8 r.sl,vOld r.live r.op r.ots r.onp r.ons r.od])):=by rw [← ev];exact f1
 refine fS_nt ?_
 refine Meet.of (cast_p (Gz1d_eq ..) ?_)
 refine fV_pf ?_
 refine g_ff ?_
 refine fS_fa (by kernel_rfl) ?_
 refine fV_ld g1 (by kernel_rfl) (w:=.int .u8 2) rfl ?_
 refine fS_eql_f (by decide) ?_
 refine Meet.of (cast_p (Gz1e_eq ..) ?_)
 refine fV_pf ?_
 refine g_ff ?_
 refine fS_fa (by kernel_rfl) ?_
 refine fV_ld g1 (by kernel_rfl) (w:=.int .u8 2) rfl ?_
 refine fS_eql_f (by decide) ?_
 refine Meet.of (cast_p (Gz1f_eq ..) ?_)
 refine fV_pf ?_
 refine Meet.of (cast_p (Jz61_eq ..) ?_)
 refine i_f ?_
 refine Meet.of (cast_p (Jz62_eq ..) ?_)
 refine fW_nil ?_
 refine fO_fa (by kernel_rfl) ?_
 refine fW_ld k1.base (by kernel_rfl) (w:=caP n.pc) rfl ?_
 refine fO_fa (by kernel_rfl) ?_
 refine fW_ld g1 (by kernel_rfl) (w:=pidV false r.no.toNat) rfl ?_
 obtain ⟨lv1,ka1⟩:=k1.ca
 have okc:=ka1.ok
 refine callG (caFetchN (i:=(false,r.no.toNat)) (rt:=rtD r.no.toNat) (bl:=blD r.no.toNat) ka1 (q1.own own) hno2 (by have:=b.ops;omega) (fun x hx=>by have:=b.pins x hx;omega) hnf (fun x h hx=>rightDP hx hno2 h) (fun h=>blankDP hno2 h) (putD_len _)) fun h2 q2 k2=>?_
 have n2:=q2.next
 have g2:=q2.at g1 (by omega) rfl
 have kb2:=k1.ca_new q2 rfl k2
 have hh0:=fetchN_holds (rt:=rtD r.no.toNat) (bl:=blD r.no.toNat) (i:=(false,r.no.toNat)) okc hnf
 have elg:=fetchN_lg (rtD r.no.toNat) (blD r.no.toNat) c (false,r.no.toNat)
 have ech:c.changeD r=c.changeD r:=rfl
 unfold Ca.changeD at ech ⊢
 rw [if_pos hm]
 unfold Ca.fetchD
 generalize hft:c.fetchN (rtD r.no.toNat) (blD r.no.toNat) (false,r.no.toNat)=ft at *
 obtain ⟨⟨x,e⟩,c2⟩:=ft
 simp only at hh0 elg k2 kb2 ⊢
 refine bindSO_mk (show aExtract (fetV (x,e)) 0=some (.agg (bytesV x)) from rfl) ?_
 refine bindSO_mk (show aExtract (fetV (x,e)) 1=some (.int .i64 e) from rfl) ?_
 have own2:OwnAll h2:=q2.own (q1.own own)
 refine flo_mk zPay (shPay (zer_len 224)) (old_bytes _ _) own2 ?_
 have u3:=new_make h2 (.cells true (.one 31) (.agg (bytesV (zer 224))))
 generalize h2.make (.cells true (.one 31) (.agg (bytesV (zer 224))))=h3 at u3 ⊢
 have q3:Keeps [] h2 h3:=Keeps.new u3
 have n3:=u3.next
 have hx:x.length=224:=by
   by_cases e0:e=0
   · obtain ⟨j,y1,y2,y3,y4⟩:=hh0 e0
     have:=k2.ok.fr (c2.frame j) (by
       unfold Ca.frame
       rw [List.getElem?_eq_getElem y2]
       exact List.getElem_mem y2)
     rw [← y4];exact this.p
   · have:(c.fetchN (rtD r.no.toNat) (blD r.no.toNat) (false,r.no.toNat)).1.2≠0:=by rw [hft];exact e0
     have e2:(c.fetchN (rtD r.no.toNat) (blD r.no.toNat) (false,r.no.toNat)).1.1=x:=by rw [hft]
     rw [← e2]
     unfold Ca.fetchN at this ⊢
     split
     · rename_i gg
       rw [if_pos gg] at this
       split
       · rename_i hq;rw [hq] at this;exact absurd rfl this
       · rename_i hq
         rw [hq] at this
         split
         · rename_i hq2;simp only [if_pos hq2] at this;exact absurd rfl this
         · exact zer_len 224
     · exact zer_len 224
 refine bindE (st_at (p:=[]) u3.at_ (by kernel_rfl) rfl (shPay hx) rfl) fun h4 u4=>?_
 have q4:Keeps [] h2 h4:=q3.young u4 (Nat.le_refl _)
 have n4:=u4.next
 have g4:=q4.at g2 (by omega) rfl
 have f4:=u4.at_
 have kb4:=kb2.keep q4 rfl
 have q04:Keeps TBc h h4:=(q1.sub rfl).trans ((q2.sub rfl).trans (q4.sub rfl))
 by_cases e0:e=0
 case neg =>
   rw [if_neg e0]
   refine fS_neq_t e0 ?_
   refine i_t ?_
   refine bindR_mk (show aResV Pg h4 R5 [.int .i64 e]=some [.int .i64 e] from rfl) ?_
   exact ⟨rfl,q04,kb4⟩
 have hh:=hh0 e0
 subst e0
 rw [if_pos rfl]
 refine fS_neq_f (by decide) ?_
 refine i_f ?_
 refine Meet.of (cast_p (Jz63_eq ..) ?_)
 refine fW_nil ?_
 refine fO_fa (by kernel_rfl) ?_
 refine fW_ld kb4.base (by kernel_rfl) (w:=caP n.pc) rfl ?_
 refine fO_fa (by kernel_rfl) ?_
 refine fW_ld g4 (by kernel_rfl) (w:=pidV false r.no.toNat) rfl ?_
 refine fO_fa (by kernel_rfl) ?_
 refine fW_ld g4 (by kernel_rfl) (w:=pidV false r.no.toNat) rfl ?_
 refine fW_ld f4 (by kernel_rfl) (w:=.agg (bytesV x)) rfl ?_
 refine fW_nil ?_
 refine fO_fa (by kernel_rfl) ?_
 refine fW_ld kb4.base (by kernel_rfl) (w:=lgP n.c.l) rfl ?_
 obtain ⟨lv4,ka4⟩:=kb4.ca
 refine ⟨_,lgEnd ka4.lg,?_⟩
 refine fW_ld g4 (by kernel_rfl) (w:=r.v) (by rw [ev];rfl) ?_
 have bent:aBuild Pg 72 [(0,.int .u64 c2.lg.fin),(1,r.v)]=some (entV c2.lg.fin r):=by
   refine bld_struct [42,38] (show zeroV Pg 72=some (.agg [.int .u64 0,Rcn.rz 0]) by kernel_rfl) (by kernel_rfl) ?_
   have h3:hasShape Pg (.int .u64 c2.lg.fin) 42=true:=by kernel_rfl
   simp [putParts,h3,shr]
 refine bindSO_mk bent ?_
 have bfin:c2.lg.fin < 18446744073709000000:=by rw [elg];exact b.fin
 refine ⟨_,redoP r hx hno2 (by omega) o hm hu hno hk h4,?_⟩
 cases hrd:redoF r.no.toNat x c2.lg.fin r with
 | none =>
   simp only
   refine bindSO_mk (show aExtract (redoV none) 0=some (.agg (bytesV (zer 224))) from rfl) ?_
   refine bindSO_mk (show aExtract (redoV none) 1=some (.int .i64 2) from rfl) ?_
   refine bindE (st_at (p:=[]) f4 (by kernel_rfl) rfl (shPay (zer_len 224)) rfl) fun h5 u5=>?_
   have q5:Keeps [(0,31,0)] h4 h5:=Keeps.upd u5 f4 rfl rfl
   have kb5:=kb4.keep q5 rfl
   refine fS_neq_t (by decide) ?_
   refine i_t ?_
   refine leaveP (i:=(false,r.no.toNat)) kb5.ca hh fun h6 q6 k6=>?_
   exact ⟨rfl,(q04.young u5 (by omega)).trans (q6.sub rfl),kb5.ca_new q6 rfl k6⟩
 | some x' =>
   have hx':x'.length=224∧dataOk r.no.toNat x':=by
     unfold redoF at hrd
     split at hrd
     · cases hrd
     · split at hrd
       · cases hrd
       · cases hrd
         refine ⟨putD_len _,putD_ok hno2 ?_⟩
         unfold dataF
         rw [if_pos hk]
         refine ⟨by show c2.lg.fin < _;omega,by show r.ts.toNat < _;have:=o.ts;omega,by show r.pp.toNat < _;have:=o.pp;omega,?_⟩
         show (deltaF _ _).2.length=64
         unfold deltaF
         refine dGo_len _ _ _ _ _ ?_
         refine (gotD_ok ?_).body
         unfold Rc.onF
         rw [if_neg (by omega)];exact hx
   simp only
   refine bindSO_mk (show aExtract (redoV (some x')) 0=some (.agg (bytesV x')) from rfl) ?_
   refine bindSO_mk (show aExtract (redoV (some x')) 1=some (.int .i64 0) from rfl) ?_
   refine bindE (st_at (p:=[]) f4 (by kernel_rfl) rfl (shPay hx'.1) rfl) fun h5 u5=>?_
   have q5:Keeps [(0,31,0)] h4 h5:=Keeps.upd u5 f4 rfl rfl
   have n5:=u5.next
   have kb5:=kb4.keep q5 rfl
   have g5:=q5.at g4 (by omega) rfl
   have f5:=u5.at_
   have q05:Keeps TBc h h5:=q04.young u5 (by omega)
   refine fS_neq_f (by decide) ?_
   refine i_f ?_
   refine Meet.of (cast_p (Jz64_eq ..) ?_)
   obtain ⟨lv5,ka5⟩:=kb5.ca
   refine fW_nil ?_
   refine fO_fa (by kernel_rfl) ?_
   refine fW_ld kb5.base (by kernel_rfl) (w:=caP n.pc) rfl ?_
   refine fO_fa (by kernel_rfl) ?_
   refine fW_ld g5 (by kernel_rfl) (w:=pidV false r.no.toNat) rfl ?_
   refine ⟨_,caClean ka5 (false,r.no.toNat),?_⟩
   -- from the record that is laid on
   have rest:∀ (h6:AH) (r':Rc),r'.ok→r'.may=true→r'=c2.laid r.no.toNat r x'→Keeps TBc h h6→h6.m h.next=some (.cells true (.one 38) r'.v)→h.next < h6.next→h6.m h2.next=some (.cells true (.one 31) (.agg (bytesV x')))→h2.next < h6.next→BsA h6 p n f c2→getV r'.v [1]=some (pidV false r.no.toNat) →
       Jz65 (Gives TBc h (.int .i64 (if (c2.lg.append (c2.laid r.no.toNat r x').enc).1.2=0 then ((0:Int),(({ c2 with lg:=(c2.lg.append (c2.laid r.no.toNat r x').enc).2 }:Ca).putP (false,r.no.toNat) x').unhold (false,r.no.toNat)) else ((c2.lg.append (c2.laid r.no.toNat r x').enc).1.2,c2.unhold (false,r.no.toNat))).1)
         fun h'=>BsA h' p n f (if (c2.lg.append (c2.laid r.no.toNat r x').enc).1.2=0 then ((0:Int),(({ c2 with lg:=(c2.lg.append (c2.laid r.no.toNat r x').enc).2 }:Ca).putP (false,r.no.toNat) x').unhold (false,r.no.toNat)) else ((c2.lg.append (c2.laid r.no.toNat r x').enc).1.2,c2.unhold (false,r.no.toNat))).2)
         [(22,[caP n.pc,pidV false r.no.toNat])] (bsP p) (.ptr (some ⟨h.next,.one 38,[]⟩)) (.int .i64 0) (paB h2.next) h6:=by
     intro h6 r' o' hm' er q6 g6 l6 f6 l62 kb6 hpg
     rw [← er]
     rw [Jz65_eq]
     refine fV_ld g6 (by kernel_rfl) (w:=r'.v) rfl ?_
     refine callS (encP r' o' h6) ?_
     rw [show encRes r'=.tup [.str r'.enc,.int .i64 0] by unfold encRes;rw [if_pos hm']]
     refine fS_e0 ?_
     refine fS_e1 ?_
     refine fV_nil ?_
     refine fS_fa (by kernel_rfl) ?_
     refine fV_ld kb6.base (by kernel_rfl) (w:=lgP n.c.l) rfl ?_
     obtain ⟨lv6,ka6⟩:=kb6.ca
     refine callG (lgAppend ka6.lg r'.enc (enc_len hm' o') (by rw [elg];exact b.num) bfin (by rw [elg];exact b.sealed) (by rw [elg];exact b.opn)) fun h7 q7 k7=>?_
     have n7:=q7.next
     have ka7:CaB h7 n.pc n.c lv6 { c2 with lg:=(c2.lg.append r'.enc).2 }:=ka6.parts q7 rfl (ka6.dk.keep q7 rfl rfl rfl rfl) k7 (ka6.ck.keep q7 rfl rfl rfl) rfl (by
       have sp:∀ (m:Nat) (l:Lg),(Lg.spill m l).d=l.d:=by
         intro m
         induction m with
         | zero=>intro l;rfl
         | succ m ih=>intro l;unfold Lg.spill;split;exact ih _;rfl
       unfold Lg.append
       split
       · rfl
       · split
         · rfl
         · exact sp _ _) rfl
     have q07:Keeps TBc h h7:=q6.trans (q7.sub rfl)
     have kb7:=kb6.ca_new q7 rfl ⟨lv6,ka7⟩
     have g7:=q7.at g6 l6 rfl
     have f7:=q7.at f6 l62 rfl
     refine bindS_mk (show aExtract (apdV (c2.lg.append r'.enc).1) 0=some (.int .u64 (c2.lg.append r'.enc).1.1) from rfl) ?_
     refine bindS_mk (show aExtract (apdV (c2.lg.append r'.enc).1) 1=some (.int .i64 (c2.lg.append r'.enc).1.2) from rfl) ?_
     by_cases ea:(c2.lg.append r'.enc).1.2=0
     case neg =>
       rw [if_neg ea]
       refine fS_neq_t ea ?_
       refine i_t ?_
       have el:(c2.lg.append r'.enc).2=c2.lg:=by
         unfold Lg.append at ea ⊢
         split
         · rfl
         · rename_i w1
           rw [if_neg w1] at ea
           split
           · rfl
           · rename_i w2;rw [if_neg w2] at ea;exact absurd rfl ea
       have e9:({ c2 with lg:=(c2.lg.append r'.enc).2 }:Ca)=c2:=by rw [el]
       rw [e9] at kb7
       refine leaveP (i:=(false,r.no.toNat)) kb7.ca hh fun h8 q8 k8=>?_
       exact ⟨rfl,q07.trans (q8.sub rfl),kb7.ca_new q8 rfl k8⟩
     rw [if_pos ea]
     refine fS_neq_f ea ?_
     refine i_f ?_
     refine Meet.of (cast_p (Jz66_eq ..) ?_)
     refine fW_nil ?_
     refine fO_fa (by kernel_rfl) ?_
     refine fW_ld kb7.base (by kernel_rfl) (w:=caP n.pc) rfl ?_
     refine fO_fa (by kernel_rfl) ?_
     refine fW_ld g7 (by kernel_rfl) (w:=pidV false r.no.toNat) hpg ?_
     refine fW_ld f7 (by kernel_rfl) (w:=.agg (bytesV x')) rfl ?_
     obtain ⟨j,y1,y2,y3,y4⟩:=hh
     refine callG (caPut ka7 (false,r.no.toNat) y1 y3 hx'.1 (fun h=>by
       have:=rightDP hx'.1 hno2 h
       rw [decide_eq_true hx'.2] at this
       exact this)) fun h8 q8 k8=>?_
     have n8:=q8.next
     have hh8:({ c2 with lg:=(c2.lg.append r'.enc).2 }:Ca).holds (false,r.no.toNat) x:=⟨j,y1,y2,y3,y4⟩
     have e8:({ c2 with lg:=(c2.lg.append r'.enc).2 }:Ca).putP (false,r.no.toNat) x'={ { c2 with lg:=(c2.lg.append r'.enc).2 } with fr:=c2.fr.set j ((c2.frame j).put x') }:=by
       unfold Ca.putP
       rw [show kget ({ c2 with lg:=(c2.lg.append r'.enc).2 }:Ca).at_ (false,r.no.toNat)=some j from y1];rfl
     have kb8:BsA h8 p n f (({ c2 with lg:=(c2.lg.append r'.enc).2 }:Ca).putP (false,r.no.toNat) x'):=by rw [e8];exact kb7.ca_new q8 rfl ⟨lv6,k8⟩
     have g8:=q8.at g7 (by omega) rfl
     have f8:=q8.at f7 (by omega) rfl
     refine fS_fa (by kernel_rfl) ?_
     refine fV_ld g8 (by kernel_rfl) (w:=pidV false r.no.toNat) hpg ?_
     refine fV_ld f8 (by kernel_rfl) (w:=.agg (bytesV x')) rfl ?_
     refine callG (noteDP r.no.toNat hx'.1 _ h8) fun h9 q9 _=>?_
     have kb9:=kb8.keep q9 rfl
     refine leaveP (i:=(false,r.no.toNat)) kb9.ca (putP_holds hh8) fun h10 q10 k10=>?_
     exact ⟨rfl,q07.trans ((q8.sub rfl).trans ((q9.sub rfl).trans (q10.sub rfl))),kb9.ca_new q10 rfl k10⟩
   cases hcl:c2.clean (false,r.no.toNat) with
   | true =>
     refine i_t ?_
     refine fS_fa (by kernel_rfl) ?_
     refine fV_ld g5 (by kernel_rfl) (w:=pidV false r.no.toNat) rfl ?_
     refine fV_ld f5 (by kernel_rfl) (w:=.agg (bytesV x')) rfl ?_
     refine bindS_mk (bldImg r.no.toNat hx'.1) ?_
     refine bindE (st_at (p:=[]) g5 (by kernel_rfl) rfl (shR _ (imgR_ok hno2 hx'.1).im) rfl) fun h6 u6=>?_
     have q6:Keeps [(0,38,0)] h5 h6:=Keeps.upd u6 g5 rfl rfl
     have n6:=u6.next
     exact Meet.of (rest h6 _ (imgR_ok hno2 hx'.1) (imgR_may _ _) (by unfold Ca.laid;rw [hcl];rfl) (q05.young u6 (Nat.le_refl _)) u6.at_ (by omega) (q6.at f5 (by omega) rfl) (by omega) (kb5.keep q6 rfl) (by rw [imgR_v];rfl))
   | false =>
     refine i_f ?_
     exact Meet.of (rest h5 r o hm (by unfold Ca.laid;rw [hcl];rfl) q05 (by rw [ev];exact g5) (by omega) f5 (by omega) kb5 (by rw [ev];rfl))
end
end Go.Proofs.Ytdfgfbammkojoaa.Sh
namespace Go.Proofs.Ytdfgfbammkojoaa.Sh
open Go Go.Ab Go.RowKit
open Go.Proofs.Ytdfgfbammkojoaa.Ru (Pg okP)
set_option maxRecDepth 100000
noncomputable def B49:Code:=(Try.f49.body).getD .skip
def R49:List ResultVar:=[.tmp 2]
abbrev N49:Nat:=13
def K49:KT:=(.seq .leaf (.join (.join (.reg [[0,5,7]]) (.two (.seq .leaf .leaf [2]) .leaf) [0,8]) (.seq .leaf .leaf [2]) [0]) [0])
def Jz5d (Q:AEnd→AH→Prop) (x0:V) (h:AH):Prop:=vcAt Pg N49 B49 K49 [1,1] [] (vcRet Pg R49 Q) [(0,x0)] h
def Jz5c (Q:AEnd→AH→Prop) (x0 x8:V) (h:AH):Prop:=vcAt Pg N49 B49 K49 [1,0,1] [] (vcRet Pg R49 Q) [(0,x0),(8,x8)] h
def Gz1a (Q:AEnd→AH→Prop) (x0 x5 x7:V) (h:AH):Prop:=segAt Pg N49 B49 K49 [1,0,0] 2 1 [] (vcRet Pg R49 Q) [(0,x0),(5,x5),(7,x7)] h
theorem Jz5d_eq (Q:AEnd→AH→Prop) (x0:V) (h:AH):Jz5d Q x0 h=(
 bindV (aMakeSlice Pg h 162 x0 x0) fun v5 h6 =>
 bindV (still (aBuild Pg 164 [(0,v5)]) h6) fun v7 h8 =>
 bindV (aNew Pg h8 164 v7) fun v9 h10 =>
 Q (.ret v9) h10):=by kernel_rfl
theorem Jz5c_eq (Q:AEnd→AH→Prop) (x0 x8:V) (h:AH):Jz5c Q x0 x8 h=(
 vcIf x8 (
 Q (.ret (V.ptr none)) h) (
 Meet (Jz5d Q x0 h))):=by kernel_rfl
theorem Gz1a_eq (Q:AEnd→AH→Prop) (x0 x5 x7:V) (h:AH):Gz1a Q x0 x5 x7 h=(
 bindV (aPick x5 (V.bool true) x7 h) fun v3 h4 =>
 Meet (Jz5c Q x0 v3 h4)):=by kernel_rfl
theorem S49 (Q:AEnd→AH→Prop) (a0:V) (h:AH):vc Pg N49 B49 K49 (vcRet Pg R49 Q) (initEnv 0 [a0]) h=(
 bindV (still (aBin Pg .lss 3 a0 (V.int .i64 1) true) h) fun v1 h2 =>
 vcG v1 false (
 bindV (still (aBin Pg .gtr 3 a0 (V.int .i64 32) true) h2) fun v11 h12 =>
 Meet (Gz1a Q a0 v1 v11 h12)) (Meet (Gz1a Q a0 v1 hole h2))):=by kernel_rfl
theorem C49 (Q:AEnd→AH→Prop) (a0:V) (h:AH) (c :
 bindV (still (aBin Pg .lss 3 a0 (V.int .i64 1) true) h) fun v1 h2 =>
 vcG v1 false (
 bindV (still (aBin Pg .gtr 3 a0 (V.int .i64 32) true) h2) fun v11 h12 =>
 Meet (Gz1a Q a0 v1 v11 h12)) (Meet (Gz1a Q a0 v1 hole h2))):ACalls Pg 49 [a0] h Q :=
 acalls_of_vc okP Try.func49 (show Try.f49.body=some B49 from by kernel_rfl) K49 (by rw [← S49 Q a0 h] at c;exact c)
noncomputable def B72:Code:=(Try.f72.body).getD .skip
def R72:List ResultVar:=[.tmp 2]
abbrev N72:Nat:=17
def K72:KT:=(.seq .leaf (.join (.join (.reg [[0,5,7]]) (.two (.seq .leaf .leaf [2]) .leaf) [0,8]) (.seq (.flo [1,3,5,7] [1,3,5] 6) .leaf [2]) [0]) [0])
def Jz6n (Q:AEnd→AH→Prop) (x0:V) (h:AH):Prop:=vcAt Pg N72 B72 K72 [1,1] [] (vcRet Pg R72 Q) [(0,x0)] h
def Jz6m (Q:AEnd→AH→Prop) (x0 x8:V) (h:AH):Prop:=vcAt Pg N72 B72 K72 [1,0,1] [] (vcRet Pg R72 Q) [(0,x0),(8,x8)] h
def Gz1x (Q:AEnd→AH→Prop) (x0 x5 x7:V) (h:AH):Prop:=segAt Pg N72 B72 K72 [1,0,0] 2 1 [] (vcRet Pg R72 Q) [(0,x0),(5,x5),(7,x7)] h
theorem Jz6n_eq (Q:AEnd→AH→Prop) (x0:V) (h:AH):Jz6n Q x0 h=(
 floB h h (floMk Pg 150 x0 x0) fun v5 h6=>(
 floB h h6 (floMk Pg 150 x0 x0) fun v7 h8=>(
 floB h h8 (floMk Pg 151 x0 x0) fun v9 h10=>(
 bindO (fstV (still (aBuild Pg 153 [(1,v5),(2,v7),(3,v9)]) h10)) fun v11 =>
 bindV (aNew Pg h10 153 v11) fun v12 h13=>(
 Q (.ret v12) h13))))):=by kernel_rfl
theorem Jz6m_eq (Q:AEnd→AH→Prop) (x0 x8:V) (h:AH):Jz6m Q x0 x8 h=(
 vcIf x8 (
 Q (.ret (V.ptr none)) h) (
 Meet (Jz6n Q x0 h))):=by kernel_rfl
theorem Gz1x_eq (Q:AEnd→AH→Prop) (x0 x5 x7:V) (h:AH):Gz1x Q x0 x5 x7 h=(
 bindV (aPick x5 (V.bool true) x7 h) fun v3 h4 =>
 Meet (Jz6m Q x0 v3 h4)):=by kernel_rfl
theorem S72 (Q:AEnd→AH→Prop) (a0:V) (h:AH):vc Pg N72 B72 K72 (vcRet Pg R72 Q) (initEnv 0 [a0]) h=(
 bindV (still (aBin Pg .lss 3 a0 (V.int .i64 1) true) h) fun v1 h2 =>
 vcG v1 false (
 bindV (still (aBin Pg .gtr 3 a0 (V.int .i64 64) true) h2) fun v14 h15 =>
 Meet (Gz1x Q a0 v1 v14 h15)) (Meet (Gz1x Q a0 v1 hole h2))):=by kernel_rfl
theorem C72 (Q:AEnd→AH→Prop) (a0:V) (h:AH) (c :
 bindV (still (aBin Pg .lss 3 a0 (V.int .i64 1) true) h) fun v1 h2 =>
 vcG v1 false (
 bindV (still (aBin Pg .gtr 3 a0 (V.int .i64 64) true) h2) fun v14 h15 =>
 Meet (Gz1x Q a0 v1 v14 h15)) (Meet (Gz1x Q a0 v1 hole h2))):ACalls Pg 72 [a0] h Q :=
 acalls_of_vc okP Try.func72 (show Try.f72.body=some B72 from by kernel_rfl) K72 (by rw [← S72 Q a0 h] at c;exact c)
end Go.Proofs.Ytdfgfbammkojoaa.Sh
namespace Go.Proofs.Ytdfgfbammkojoaa.Sh
open Go Go.Ab Go.RowKit
open Go.Proofs.Ytdfgfbammkojoaa.Ru (Pg okP)
set_option maxRecDepth 10000
set_option maxHeartbeats 4000000
set_option linter.unusedSectionVars false
def GivesP (T:Tags) (h0:AH) (mk:Nat→V) (R:Nat→AH→Prop):AEnd→AH→Prop:=fun e h'=>∃ p,e=.ret (mk p)∧h0.next≤p∧Keeps T h0 h'∧R p h'
theorem callP {f:FuncId} {args:List V} {h:AH} {T:Tags} {mk:Nat→V} {R:Nat→AH→Prop} {K X:V→AH→Prop} (c:ACalls Pg f args h (GivesP T h mk R)) (k:∀ p h',h.next≤p→Keeps T h h'→R p h'→K (mk p) h'):ACalls Pg f args h (aEnd K X) :=
 c.mono fun e h' q=>by obtain ⟨p,rfl,q1,q2,q3⟩:=q;exact k p h' q1 q2 q3
theorem mm_at {h:AH} {t kt et:TypeId} (hc:mpOk Pg t kt et=true):∃ h',aMakeMap Pg h t=some (.map (some h.next),h')∧New h h' (.mp kt et []):=by
 obtain ⟨hu,hp⟩:=mpOk_u hc
 unfold aMakeMap
 rw [hu]
 exact ⟨_,rfl,new_make _ _⟩
def Dk.new (n:Nat):Dk:=⟨n,[],[],[],fun _=>false,0,0,false⟩
theorem dkNew {n:Nat} (h1:1≤n) (h2:n≤2048) (h:AH):ACalls Pg 13 [.int .i64 n] h (GivesP [] h dkP fun p h'=>DkA h' p (Dk.new n)):=by
 refine C13 _ _ _ ?_
 refine fS_lss_f (by omega) ?_
 refine g_ff ?_
 refine fS_gtr_f (by omega) ?_
 refine Meet.of (cast_p (Gz1_eq ..) ?_)
 refine fV_pf ?_
 refine Meet.of (cast_p (Jz2c_eq ..) ?_)
 refine i_f ?_
 refine Meet.of (cast_p (Jz2d_eq ..) ?_)
 refine bindE (mm_at (show mpOk Pg 115 121 122=true by kernel_rfl)) fun h1' u1=>?_
 have n1:=u1.next
 refine bindE (mm_at (show mpOk Pg 115 121 122=true by kernel_rfl)) fun h2' u2=>?_
 have n2:=u2.next
 have q1:Keeps [] h h1':=Keeps.new u1
 have q2:Keeps [] h1' h2':=Keeps.new u2
 refine bindS_mk (show aBuild Pg 119 [(0,.int .i64 n),(1,.map (some h.next)),(2,.map (some h1'.next))]=some (dkV (Dk.new n) h.next h1'.next (.slc none 0) (.map none)) by kernel_rfl) ?_
 refine bindE (new_at (show hasShape Pg (dkV (Dk.new n) h.next h1'.next (.slc none 0) (.map none)) 119=true by kernel_rfl)) fun h3' u3=>?_
 have n3:=u3.next
 have q3:Keeps [] h2' h3':=Keeps.new u3
 refine ⟨h2'.next,rfl,by omega,q1.trans (q2.trans q3),h.next,h1'.next,.slc none 0,.map none,u3.at_,(q2.trans q3).at u1.at_ (by omega) rfl,q3.at u2.at_ (by omega) rfl,.inl ⟨rfl,rfl⟩,.inl ⟨rfl,fun _=>rfl⟩,⟨by omega,by omega,by omega,by omega⟩,?_⟩
 exact ⟨⟨h1,h2⟩,(fun _ h=>nomatch h),(fun _ h=>nomatch h),(fun _ h=>nomatch h),by show (-9223372036854775808:Int)≤0∧(0:Int) < _;omega⟩
def Ck.new (n:Nat):Ck:=⟨0,List.replicate n false,List.replicate n false,List.replicate n 0⟩
theorem fm_b {n:Nat} (h2:n≤64):floMk Pg 150 (.int .i64 n) (.int .i64 n)=some (.cells true (.row 4) (.agg (bools (List.replicate n false))),fun m=>.slc (some (⟨m,.row 4,[]⟩,0)) n):=by
 have hu:ul Pg 150=some (.slice 4):=by kernel_rfl
 have hz:zeroV Pg 4=some (.bool false):=by kernel_rfl
 have hb:Pg.bytesOf 4=1:=by decide +kernel
 have hc:Pg.cellsOf 4≠0:=by decide +kernel
 unfold floMk aMakeSlice
 simp only [hu,hz,hb]
 rw [if_pos ⟨trivial,by omega,by omega,by omega,hc⟩]
 have e:((n:Nat):Int).toNat=n:=by omega
 have ho:oldO (.cells true (.row 4) (.agg (bools (List.replicate n false))))=true:=by
   show oldVs _ (bools (List.replicate n false))=true
   clear e h2 hu hz hb hc
   induction n with
   | zero=>rfl
   | succ n ih=>exact ih
 simp only [AH.make,AH0,e,if_true]
 rw [show List.replicate n (V.bool false)=bools (List.replicate n false) by simp [bools],ho];rfl
theorem fm_i {n:Nat} (h2:n≤64):floMk Pg 151 (.int .i64 n) (.int .i64 n)=some (.cells true (.row 3) (.agg (ints (List.replicate n 0))),fun m=>.slc (some (⟨m,.row 3,[]⟩,0)) n):=by
 have hu:ul Pg 151=some (.slice 3):=by kernel_rfl
 have hz:zeroV Pg 3=some (.int .i64 0):=by kernel_rfl
 have hb:Pg.bytesOf 3=8:=by decide +kernel
 have hc:Pg.cellsOf 3≠0:=by decide +kernel
 unfold floMk aMakeSlice
 simp only [hu,hz,hb]
 rw [if_pos ⟨trivial,by omega,by omega,by omega,hc⟩]
 have e:((n:Nat):Int).toNat=n:=by omega
 have ho:oldO (.cells true (.row 3) (.agg (ints (List.replicate n 0))))=true:=by
   show oldVs _ (ints (List.replicate n 0))=true
   clear e h2 hu hz hb hc
   induction n with
   | zero=>rfl
   | succ n ih=>exact ih
 simp only [AH.make,AH0,e,if_true]
 rw [show List.replicate n (V.int .i64 0)=ints (List.replicate n 0) by simp [ints],ho];rfl
theorem ckNew {n:Nat} (h1:1≤n) (h2:n≤64) {h:AH} (own:OwnAll h):ACalls Pg 72 [.int .i64 n] h (GivesP [] h ckP fun k h'=>∃ s d p,CkA h' k s d p (Ck.new n)):=by
 refine C72 _ _ _ ?_
 refine fS_lss_f (by omega) ?_
 refine g_ff ?_
 refine fS_gtr_f (by omega) ?_
 refine Meet.of (cast_p (Gz1x_eq ..) ?_)
 refine fV_pf ?_
 refine Meet.of (cast_p (Jz6m_eq ..) ?_)
 refine i_f ?_
 refine Meet.of (cast_p (Jz6n_eq ..) ?_)
 refine flo_slc (fm_b h2) (fun n o hm=>.inl (own n o hm)) ?_
 have u1:=new_make h (.cells true (.row 4) (.agg (bools (List.replicate n false))))
 generalize h.make (.cells true (.row 4) (.agg (bools (List.replicate n false))))=h1' at u1 ⊢
 have n1:=u1.next
 have q1:Keeps [] h h1':=Keeps.new u1
 have o1:=q1.own own
 refine flo_slc (fm_b h2) (fun n o hm=>.inl (o1 n o hm)) ?_
 have u2:=new_make h1' (.cells true (.row 4) (.agg (bools (List.replicate n false))))
 generalize h1'.make (.cells true (.row 4) (.agg (bools (List.replicate n false))))=h2' at u2 ⊢
 have n2:=u2.next
 have q2:Keeps [] h1' h2':=Keeps.new u2
 have o2:=q2.own o1
 refine flo_slc (fm_i h2) (fun n o hm=>.inl (o2 n o hm)) ?_
 have u3:=new_make h2' (.cells true (.row 3) (.agg (ints (List.replicate n 0))))
 generalize h2'.make (.cells true (.row 3) (.agg (ints (List.replicate n 0))))=h3' at u3 ⊢
 have n3:=u3.next
 have q3:Keeps [] h2' h3':=Keeps.new u3
 have en:(Ck.new n).n=n:=by simp [Ck.new,Ck.n]
 have ev:ckV (Ck.new n) h.next h1'.next h2'.next=.agg [.int .i64 0,.slc (some (⟨h.next,.row 4,[]⟩,0)) n,.slc (some (⟨h1'.next,.row 4,[]⟩,0)) n,.slc (some (⟨h2'.next,.row 3,[]⟩,0)) n]:=by
   unfold ckV;rw [en];rfl
 refine bindSO_mk (show aBuild Pg 153 [(1,.slc (some (⟨h.next,.row 4,[]⟩,0)) n),(2,.slc (some (⟨h1'.next,.row 4,[]⟩,0)) n),(3,.slc (some (⟨h2'.next,.row 3,[]⟩,0)) n)]=some (ckV (Ck.new n) h.next h1'.next h2'.next) by rw [ev];kernel_rfl) ?_
 refine bindE (new_at (show hasShape Pg (ckV (Ck.new n) h.next h1'.next h2'.next) 153=true by rw [ev];kernel_rfl)) fun h4' u4=>?_
 have n4:=u4.next
 have q4:Keeps [] h3' h4':=Keeps.new u4
 refine ⟨h3'.next,rfl,by omega,q1.trans (q2.trans (q3.trans q4)),h.next,h1'.next,h2'.next,u4.at_,(q2.trans (q3.trans q4)).at u1.at_ (by omega) rfl,(q3.trans q4).at u2.at_ (by omega) rfl,q4.at u3.at_ (by omega) rfl,⟨by omega,by omega,by omega,by omega,by omega⟩,?_⟩
 refine ⟨by rw [en];exact h1,by rw [en];simp [Ck.new],by rw [en];simp [Ck.new],by rw [en];exact h2,fun p hp=>?_⟩
 have:=List.eq_of_mem_replicate hp
 omega
end Go.Proofs.Ytdfgfbammkojoaa.Sh
namespace Go.Proofs.Ytdfgfbammkojoaa.Sh
open Go Go.Ab Go.RowKit
open Go.Proofs.Ytdfgfbammkojoaa.Ru (Pg okP)
set_option maxRecDepth 10000
set_option maxHeartbeats 4000000
set_option linter.unusedSectionVars false
def Lg.new (d at_ size ep num fin:Nat):Lg:=⟨d,at_,size,ep,[],[],[],num,fin,fin,true⟩
section
variable {h:AH} {p:Nat} {d:Dk}
theorem regionP (k:DkA h p d) {a s:Nat} (h1:1≤s) (h2:a + s≤d.n):ACalls Pg 70 [dkP p,.int .i64 a,.int .i64 s] h (pureE (.bool true) h):=by
 have ok:=k.ok.n
 refine C70 _ _ _ _ _ ?_
 refine bindS_mk (show aBin Pg .neq 23 (.ptr (some _)) (.ptr none) true=some (.bool true) by kernel_rfl) ?_
 refine g_tt ?_
 refine fS_geq_t (by omega) ?_
 refine Meet.of (cast_p (Gz1t_eq ..) ?_)
 refine fV_pt ?_
 refine g_tt ?_
 refine fS_geq_t (by omega) ?_
 refine Meet.of (cast_p (Gz1u_eq ..) ?_)
 refine fV_pt ?_
 refine g_tt ?_
 refine callS (dkSize k) ?_
 refine fS_leq_t (by omega) ?_
 refine Meet.of (cast_p (Gz1v_eq ..) ?_)
 refine fV_pt ?_
 refine g_tt ?_
 refine callS (dkSize k) ?_
 refine fS_sub_i64 (by omega) (by omega) ?_
 refine fS_leq_t (by omega) ?_
 refine Meet.of (cast_p (Gz1w_eq ..) ?_)
 refine fV_pt ?_
 refine Meet.of (cast_p (Jz6k_eq ..) ?_)
 exact ⟨rfl,rfl⟩
theorem lgNew (k:DkA h p d) {a s ep num fin:Nat} (h1:1≤s) (h2:a + s≤d.n) (hep:ep < 4294967296) (hnum:num < 4294967296) (hfin:fin < 18446744073709551616) :
   ACalls Pg 47 [dkP p,.int .i64 a,.int .i64 s,.int .u32 ep,.slc none 0,.int .u32 num,.int .u64 fin] h (GivesP [] h lgP fun q h'=>LgA h' q (Lg.new p a s ep num fin)):=by
 have ok:=k.ok.n
 refine C47 _ _ _ _ _ _ _ _ _ ?_
 refine callS (regionP k h1 h2) ?_
 refine fS_nt ?_
 refine g_ff ?_
 refine fV_lenR (by kernel_rfl) ?_
 refine fS_gtr_f (by omega) ?_
 refine Meet.of (cast_p (Gz11_eq ..) ?_)
 refine fV_pf ?_
 refine Meet.of (cast_p (Jz56_eq ..) ?_)
 refine i_f ?_
 refine Meet.of (cast_p (Jz57_eq ..) ?_)
 refine fV_lenR (by kernel_rfl) ?_
 refine ⟨1,Meet.of ?_⟩
 rw [Lz7j_eq]
 refine fS_lss_f (by omega) ?_
 refine i_f ?_
 refine Meet.of (cast_p (Jz59_eq ..) ?_)
 refine bindV_mk (show aBuiltin Pg h .append [86,86] [.slc none 0,.slc none 0]=some (.slc none 0,h) by kernel_rfl) ?_
 refine bindS_mk (show aBuild Pg 89 [(0,dkP p),(1,.int .i64 a),(2,.int .i64 s),(3,.int .u32 ep),(4,.slc none 0),(7,.int .u32 num),(8,.int .u64 fin),(9,.int .u64 fin),(10,.bool true)]=some (lgV (Lg.new p a s ep num fin) (.slc none 0) (.slc none 0)) by kernel_rfl) ?_
 refine bindE (new_at (show hasShape Pg (lgV (Lg.new p a s ep num fin) (.slc none 0) (.slc none 0)) 89=true by kernel_rfl)) fun h1' u1=>?_
 have n1:=u1.next
 refine ⟨h.next,rfl,Nat.le_refl _,Keeps.new u1,.slc none 0,.slc none 0,u1.at_,.inl ⟨rfl,rfl⟩,.inl ⟨rfl,rfl⟩,by omega,?_⟩
 refine ⟨by show a≤_;omega,by show s≤_;omega,hep,by simp [Lg.new],by simp [Lg.new],by simp [Lg.new],hnum,hfin,hfin,by simp [Lg.new]⟩
def Ca.new (d:Dk) (l:Lg) (frames pages undo:Nat):Ca:=⟨d,l,Ck.new frames,pages,undo,[],frames,[]⟩
theorem caNew {q:Nat} {l:Lg} (k:DkA h p d) (kl:LgA h q l) (hl:l.d=p) (own:OwnAll h) {f pg un:Nat} (h1:4≤f∧f≤32) (h2:1≤pg∧pg≤16) (h3:1≤un∧un≤32) (h4:2 + pg + un≤d.n) :
   ACalls Pg 48 [dkP p,lgP q,.int .i64 f,.int .i64 pg,.int .i64 un] h (GivesP [] h caP fun pc h'=>∃ n:CaN,n.d=p∧n.l=q∧CaA h' pc n (Ca.new d l f pg un)):=by
 have ok:=k.ok.n
 refine C48 _ _ _ _ _ _ _ ?_
 refine bindS_mk (show aBin Pg .eql 23 (.ptr (some _)) (.ptr none) true=some (.bool false) by kernel_rfl) ?_
 refine g_ff ?_
 refine bindS_mk (show aBin Pg .eql 43 (.ptr (some _)) (.ptr none) true=some (.bool false) by kernel_rfl) ?_
 refine Meet.of (cast_p (Gz12_eq ..) ?_)
 refine fV_pf ?_
 refine g_ff ?_
 refine fS_lss_f (by omega) ?_
 refine Meet.of (cast_p (Gz13_eq ..) ?_)
 refine fV_pf ?_
 refine g_ff ?_
 refine fS_gtr_f (by omega) ?_
 refine Meet.of (cast_p (Gz14_eq ..) ?_)
 refine fV_pf ?_
 refine g_ff ?_
 refine fS_lss_f (by omega) ?_
 refine Meet.of (cast_p (Gz15_eq ..) ?_)
 refine fV_pf ?_
 refine g_ff ?_
 refine fS_gtr_f (by omega) ?_
 refine Meet.of (cast_p (Gz16_eq ..) ?_)
 refine fV_pf ?_
 refine g_ff ?_
 refine fS_lss_f (by omega) ?_
 refine Meet.of (cast_p (Gz17_eq ..) ?_)
 refine fV_pf ?_
 refine g_ff ?_
 refine fS_gtr_f (by omega) ?_
 refine Meet.of (cast_p (Gz18_eq ..) ?_)
 refine fV_pf ?_
 refine g_ff ?_
 refine fS_add_i64 (by omega) (by omega) ?_
 refine fS_add_i64 (by omega) (by omega) ?_
 refine callS (dkSize k) ?_
 refine fS_gtr_f (by omega) ?_
 refine Meet.of (cast_p (Gz19_eq ..) ?_)
 refine fV_pf ?_
 refine Meet.of (cast_p (Jz5a_eq ..) ?_)
 refine i_f ?_
 refine Meet.of (cast_p (Jz5b_eq ..) ?_)
 refine bindS_mk (show aIface Pg 43 (lgP q)=some (.ifc 43 (lgP q)) by kernel_rfl) ?_
 refine callP (ckNew (n:=f) (by omega) (by omega) own) fun kk h1' l1 q1 ⟨s,c,e,kc⟩=>?_
 refine bindE (mm_at mpAt) fun h2' u2=>?_
 have n2:=u2.next
 have q2:Keeps [] h1' h2':=Keeps.new u2
 have e0:(Ca.new d l f pg un).ck.n=f:=by simp [Ca.new,Ck.new,Ck.n]
 refine bindS_mk (show aBuild Pg 99 [(0,dkP p),(1,.ifc 43 (lgP q)),(2,ckP kk),(3,.int .i64 pg),(4,.int .i64 un),(6,.int .i64 f),(7,.map (some h1'.next))]=some (caV (Ca.new d l f pg un) ⟨p,q,kk,s,c,e,h1'.next⟩ (.slc none 0)) by kernel_rfl) ?_
 refine bindE (new_at (show hasShape Pg (caV (Ca.new d l f pg un) ⟨p,q,kk,s,c,e,h1'.next⟩ (.slc none 0)) 99=true by kernel_rfl)) fun h3' u3=>?_
 have n3:=u3.next
 have q3:Keeps [] h2' h3':=Keeps.new u3
 have q13:=q2.trans q3
 have qq:=q1.trans q13
 have:=q1.next
 refine ⟨h2'.next,rfl,by omega,qq,⟨p,q,kk,s,c,e,h1'.next⟩,rfl,rfl,.slc none 0,u3.at_,.inl ⟨rfl,rfl⟩,q3.at u2.at_ (show h1'.next < h2'.next by omega) rfl,k.keep qq rfl rfl rfl rfl,kl.keep qq rfl rfl rfl,kc.keep q13 rfl rfl rfl,⟨by omega,(show h1'.next < h3'.next by omega)⟩,hl,?_⟩
 refine ⟨h2,h3,⟨e0,h1⟩,by simp [Ca.new],(fun f hf=>by simp [Ca.new] at hf),(fun f hf=>by simp [Ca.new] at hf),fun k i=>?_,trivial,h4⟩
 simp [Ca.new,kget,kfind]
theorem roNew {n:Nat} (h1:1≤n) (h2:n≤32) (h:AH):∃ h',ACalls Pg 49 [.int .i64 n] h (pureE (roP (h.next + 1)) h')∧Keeps [] h h'∧h'.next=h.next + 2:=by
 have hu:ul Pg 162=some (.slice 129):=by kernel_rfl
 have hz:zeroV Pg 129=some (.agg [.int .u64 0,.slc none 0]):=by kernel_rfl
 have hb:1≤Pg.bytesOf 129∧Pg.bytesOf 129≤1000:=by decide +kernel
 have hc:Pg.cellsOf 129≠0:=by decide +kernel
 have e:((n:Nat):Int).toNat=n:=by omega
 have m1:aMakeSlice Pg h 162 (.int .i64 n) (.int .i64 n)=some (.slc (some (⟨h.next,.row 129,[]⟩,0)) n,h.make (.cells true (.row 129) (.agg (List.replicate n (.agg [.int .u64 0,.slc none 0]))))):=by
   unfold aMakeSlice
   simp only [hu,hz]
   rw [if_pos ⟨trivial,by omega,hb.1,Int.le_trans (show ((Pg.bytesOf 129:Nat):Int) * (n:Int)≤1000 * 32 by have:=Nat.mul_le_mul hb.2 h2;exact_mod_cast this) (by decide),hc⟩,e]
 have u1:=new_make h (.cells true (.row 129) (.agg (List.replicate n (.agg [.int .u64 0,.slc none 0]))))
 have q1:Keeps [] h (h.make (.cells true (.row 129) (.agg (List.replicate n (.agg [.int .u64 0,.slc none 0]))))):=Keeps.new u1
 have nx:(h.make (.cells true (.row 129) (.agg (List.replicate n (.agg [.int .u64 0,.slc none 0]))))).next=h.next + 1:=rfl
 generalize h.make (.cells true (.row 129) (.agg (List.replicate n (.agg [.int .u64 0,.slc none 0]))))=h1' at m1 u1 q1 nx
 have u2:=new_make h1' (.cells true (.one 164) (.agg [.slc (some (⟨h.next,.row 129,[]⟩,0)) n,.int .i64 0]))
 have q2:Keeps [] h1' (h1'.make (.cells true (.one 164) (.agg [.slc (some (⟨h.next,.row 129,[]⟩,0)) n,.int .i64 0]))):=Keeps.new u2
 refine ⟨h1'.make (.cells true (.one 164) (.agg [.slc (some (⟨h.next,.row 129,[]⟩,0)) n,.int .i64 0])),?_,q1.trans q2,by rw [u2.next,nx]⟩
 refine C49 _ _ _ ?_
 refine fS_lss_f (by omega) ?_
 refine g_ff ?_
 refine fS_gtr_f (by omega) ?_
 refine Meet.of (cast_p (Gz1a_eq ..) ?_)
 refine fV_pf ?_
 refine Meet.of (cast_p (Jz5c_eq ..) ?_)
 refine i_f ?_
 refine Meet.of (cast_p (Jz5d_eq ..) ?_)
 refine bindV_mk m1 ?_
 refine bindS_mk (show aBuild Pg 164 [(0,.slc (some (⟨h.next,.row 129,[]⟩,0)) n)]=some (.agg [.slc (some (⟨h.next,.row 129,[]⟩,0)) n,.int .i64 0]) by kernel_rfl) ?_
 refine bindV_mk (new_mk (show hasShape Pg (.agg [.slc (some (⟨h.next,.row 129,[]⟩,0)) n,.int .i64 0]) 164=true by kernel_rfl)) ?_
 exact ⟨by rw [nx],rfl⟩
theorem bsNew (k:DkA h p d) (own:OwnAll h) (f:Cfg) {fr ep num fin:Nat} (h1:4≤fr∧fr≤32) (h2:1≤f.pages∧f.pages≤16) (h3:1≤f.undo∧f.undo≤32) (h4:1≤f.log) (h5:2 + f.pages + f.undo + f.log≤d.n) (hts:f.maxts < 4294967296) (hep:ep < 4294967296) (hnum:num < 4294967296) (hfin:fin < 18446744073709551616) :
   ACalls Pg 19 [dkP p,cfV f,.int .i64 fr,.int .u32 ep,.slc none 0,.int .u32 num,.int .u64 fin] h (GivesP [] h bsP fun pb h'=>∃ n:BsN,n.c.d=p∧BsA h' pb n f (Ca.new d (Lg.new p (2 + f.pages + f.undo) f.log ep num fin) fr f.pages f.undo)):=by
 have ok:=k.ok.n
 obtain ⟨fp,fu,fl,fm⟩:=f
 simp only at h2 h3 h4 h5 hts
 refine C19 _ _ _ _ _ _ _ _ _ ?_
 refine bindE (new_at (show hasShape Pg (cfV ⟨fp,fu,fl,fm⟩) 63=true by kernel_rfl)) fun h1' u1=>?_
 have n1:=u1.next
 have q1:Keeps [] h h1':=Keeps.new u1
 have f1:h1'.m h.next=some (.cells true (.one 63) (.agg [.int .i64 fp,.int .i64 fu,.int .i64 fl,.int .u32 fm])):=u1.at_
 refine fS_fa (by kernel_rfl) ?_
 refine fV_ld f1 (by kernel_rfl) rfl ?_
 refine fS_add_i64 (by omega) (by omega) ?_
 refine fS_fa (by kernel_rfl) ?_
 refine fV_ld f1 (by kernel_rfl) rfl ?_
 refine fS_add_i64 (by omega) (by omega) ?_
 refine fS_fa (by kernel_rfl) ?_
 refine fV_ld f1 (by kernel_rfl) rfl ?_
 rw [show (2:Int) + fp + fu=((2 + fp + fu:Nat):Int) by omega]
 refine callP (lgNew (k.keep q1 rfl rfl rfl rfl) (by omega) (by omega) hep hnum hfin) fun ql h2' l2 q2 kl=>?_
 have n2:=q2.next
 have g1:=q2.at f1 (by omega) rfl
 refine fS_fa (by kernel_rfl) ?_
 refine fV_ld g1 (by kernel_rfl) rfl ?_
 refine fS_fa (by kernel_rfl) ?_
 refine fV_ld g1 (by kernel_rfl) rfl ?_
 refine callP (caNew (k.keep (q1.trans q2) rfl rfl rfl rfl) kl rfl ((q1.trans q2).own own) h1 h2 h3 (by omega)) fun pc h3' l3 q3 ⟨nc,e1,e2,kc⟩=>?_
 have n3:=q3.next
 have g3:=q3.at g1 (by omega) rfl
 refine bindS_mk (show aBin Pg .eql 47 (.ptr (some _)) (.ptr none) true=some (.bool false) by kernel_rfl) ?_
 refine i_f ?_
 refine Meet.of (cast_p (Jz2w_eq ..) ?_)
 refine fO_fa (by kernel_rfl) ?_
 refine fW_ld g3 (by kernel_rfl) (w:=.int .i64 fu) rfl ?_
 obtain ⟨h4',c4,q4,n4⟩:=roNew h3.1 h3.2 h3'
 refine ⟨_,h4',c4,?_⟩
 have g4:=q4.at g3 (by omega) rfl
 refine fW_ld g4 (by kernel_rfl) (w:=cfV ⟨fp,fu,fl,fm⟩) rfl ?_
 refine fA_ld g3 (by kernel_rfl) (w:=cfV ⟨fp,fu,fl,fm⟩) rfl ?_
 subst e1 e2
 let n:BsN:=⟨nc,pc,h3'.next + 1⟩
 refine bindSO_mk (show aBuild Pg 68 [(0,dkP nc.d),(1,lgP nc.l),(2,caP pc),(3,roP (h3'.next + 1)),(4,cfV ⟨fp,fu,fl,fm⟩)]=some (bsV n ⟨fp,fu,fl,fm⟩) by kernel_rfl) ?_
 refine bindE (new_at (show hasShape Pg (bsV n ⟨fp,fu,fl,fm⟩) 68=true by kernel_rfl)) fun h5' u5=>?_
 have n5:=u5.next
 have q5:Keeps [] h4' h5':=Keeps.new u5
 refine ⟨h4'.next,rfl,by omega,q1.trans (q2.trans (q3.trans (q4.trans q5))),n,rfl,u5.at_,kc.keep (q4.trans q5) rfl,by omega⟩
end
end Go.Proofs.Ytdfgfbammkojoaa.Sh
namespace Go.Proofs.Ytdfgfbammkojoaa.Sh
open Go Go.Ab Go.RowKit
open Go.Proofs.Ytdfgfbammkojoaa.Ru (Pg okP)
set_option maxRecDepth 10000
set_option maxHeartbeats 4000000
set_option linter.unusedSectionVars false
structure Ol where
 live:Bool
 page:Nat
 ts:Nat
 np:Nat
 ns:UInt8
 dl:List UInt8
 deriving DecidableEq
structure Ol.ok (o:Ol):Prop where
 page:o.page < 65536
 ts:o.ts < 4294967296
 np:o.np < 65536
 dl:o.dl.length < 1000000
def Ol.v (o:Ol):V:=.agg [.bool o.live,.int .u16 o.page,.int .u32 o.ts,.agg [.int .u16 o.np,.int .u8 o.ns.toNat],.str o.dl]
def Ol.z:Ol:=⟨false,0,0,0,0,[]⟩
theorem shOl (o:Ol):hasShape Pg o.v 36=true:=by kernel_rfl
theorem zOl:zeroV Pg 36=some Ol.z.v:=by kernel_rfl
theorem bOl:aBuild Pg 36 []=some Ol.z.v:=by kernel_rfl
structure Un where
 lsn:Nat
 olds:List Ol
structure Un.ok (u:Un):Prop where
 lsn:u.lsn < 18446744073709551616
 olds:∀ o∈u.olds,o.ok
 len:u.olds.length≤1000000
def unV (l:Nat) (sv:V):V:=.agg [.int .u64 l,sv]
structure UnB (h:AH) (v:V) (u:Un):Prop where
 v:∃ sv,v=unV u.lsn sv∧RwB 36 h sv (u.olds.map Ol.v)
 ok:u.ok
theorem RwB.get {e:TypeId} {h:AH} {x:V} {xs:List V} (b:RwB e h x xs) {i:Nat} {w:V} (hi:xs[i]?=some w):∃ r,r < h.next∧x=.slc (some (⟨r,.row e,[]⟩,0)) xs.length∧h.m r=some (.cells true (.row e) (.agg xs)):=by
 rcases b with ⟨rfl,rfl⟩ | b
 · cases hi
 · exact b
theorem shUn (l:Nat) {e:Nat} {h:AH} {sv:V} {xs:List V} (b:RwB e h sv xs):hasShape Pg (unV l sv) 129=true:=by
 obtain ⟨a,rfl⟩:=b.shape
 kernel_rfl
def Ol.sz (o:Ol):Nat:=1 + if o.live then 10 + o.dl.length else 0
def sizeU (l:List Ol):Nat:=16 + (l.map Ol.sz).sum
theorem sizeU_app (a b:List Ol):sizeU (a++b)=sizeU a + (b.map Ol.sz).sum:=by unfold sizeU;simp;omega
theorem sizeU_le {l:List Ol} (h:∀ o∈l,o.ok):sizeU l≤16 + 1000011 * l.length:=by
 unfold sizeU
 induction l with
 | nil=>simp
 | cons o l ih =>
   have h1:=ih fun o' ho=>h o' (List.mem_cons_of_mem _ ho)
   have h2:=(h o List.mem_cons_self).dl
   have h3:o.sz≤1000011:=by unfold Ol.sz;split <;> omega
   simp only [List.map_cons,List.sum_cons,List.length_cons]
   omega
section
variable {h0:AH} {sv:V} {olds:List Ol}
theorem rowOld {h:AH} {pre rest:List Ol} {o:Ol} (b:RwB 36 h sv (olds.map Ol.v)) (e:olds=pre++o :: rest) {K:V→AH→Prop}
   (k:∀ h' n,h.next≤n→Keeps [] h h'→h'.m n=some (.cells true (.one 36) o.v)→n < h'.next→K (.ptr (some ⟨n,.one 36,[]⟩)) h') :
   bindV (still (aIndexAddr Pg 127 sv (.int .i64 (pre.length:Nat))) h) fun v11 h12=>bindV (aLoadV Pg h12 36 v11) fun v13 h14=>bindV (aAlloc Pg h14 36) fun v15 h16=>bindV (aStoreV Pg h16 36 v15 v13) fun _ h18=>K v15 h18:=by
 have hi:(olds.map Ol.v)[pre.length]?=some o.v:=by rw [e];simp
 obtain ⟨r,r1,r2,r3⟩:=b.get hi
 rw [r2]
 refine bindS_mk (ia_slc _ (by kernel_rfl) (by omega) (by rw [e];simp;omega)) ?_
 refine bindV_mk (ld_mk r3 (by kernel_rfl) (w:=o.v) (by rw [show 0 + ((pre.length:Nat):Int).toNat=pre.length by omega];exact getV_row hi)) ?_
 refine bindE (al_at zOl (shOl _)) fun h1 u1=>?_
 have n1:=u1.next
 refine bindE (st_at (p:=[]) u1.at_ (by kernel_rfl) rfl (shOl o) rfl) fun h2 u2=>?_
 have n2:=u2.next
 exact k h2 h.next (Nat.le_refl _) ((Keeps.new u1).young u2 (Nat.le_refl _)) u2.at_ (by omega)
theorem sizeL:∀ (rest pre:List Ol) (m:Nat) (h:AH),olds=pre++rest→rest.length < m→Keeps [] h0 h→RwB 36 h sv (olds.map Ol.v)→(∀ o∈olds,o.ok)→olds.length≤1000000 →
   Lz7o (EndsO (.int .i64 (sizeU olds:Nat)) h0) m (.int .i64 (sizeU pre:Nat)) sv (.int .i64 (olds.length:Nat)) (.int .i64 (pre.length:Nat)) h
 | rest,pre,0,h,e,hm,_,_,_,_=>by omega
 | [],pre,m + 1,h,e,hm,q,b,ok,hl=>by
   rw [List.append_nil] at e
   subst e
   rw [Lz7o_eq]
   refine fS_lss_f (by omega) ?_
   refine i_f ?_
   refine Meet.of (cast_p (Jz6y_eq ..) ?_)
   exact ⟨rfl,q.all⟩
 | o :: rest,pre,m + 1,h,e,hm,q,b,ok,hl=>by
   have hlen:olds.length=pre.length + 1 + rest.length:=by rw [e];simp;omega
   have o1:o.ok:=ok o (by rw [e];simp)
   have e':olds=(pre++[o])++rest:=by rw [e];simp
   have s1:sizeU (pre++[o])=sizeU pre + o.sz:=by rw [sizeU_app];simp
   have s2:=sizeU_le (l:=pre) fun o' ho=>ok o' (by rw [e];simp [ho])
   have d1:=o1.dl
   rw [Lz7o_eq]
   refine fS_lss_t (by omega) ?_
   refine i_t ?_
   refine Meet.of (cast_p (Jz6w_eq ..) ?_)
   refine rowOld b e fun h1 n l1 q1 f1 l2=>?_
   have b1:=b.keep q1 rfl
   refine fS_add_i64 (by omega) (by omega) ?_
   refine fS_fa (by kernel_rfl) ?_
   refine fV_ld f1 (by kernel_rfl) (w:=.bool o.live) rfl ?_
   have go:∀ x:Int,x=(sizeU (pre++[o]):Nat)→Jz6x (EndsO (.int .i64 (sizeU olds:Nat)) h0) m (.int .i64 x) sv (.int .i64 (olds.length:Nat)) (.int .i64 (pre.length:Nat)) h1:=by
     intro x hx
     subst hx
     rw [Jz6x_eq]
     refine fS_add_i64 (by omega) (by omega) ?_
     have:=sizeL rest (pre++[o]) m h1 e' (by simp at hm;omega) (q.trans q1) b1 ok hl
     rw [show (((pre++[o]).length:Nat):Int)=(pre.length:Int) + 1 by simp] at this
     exact Meet.of this
   refine i_split (fun g=>?_) (fun g=>?_)
   · refine fS_fa (by kernel_rfl) ?_
     refine fV_ld f1 (by kernel_rfl) (w:=.str o.dl) rfl ?_
     refine fV_lenS (by kernel_rfl) ?_
     refine fS_add_i64 (by omega) (by omega) ?_
     refine fS_add_i64 (by omega) (by omega) ?_
     exact Meet.of (go _ (by rw [s1];unfold Ol.sz;rw [if_pos g];omega))
   · exact Meet.of (go _ (by rw [s1];unfold Ol.sz;rw [if_neg (by rw [g];decide)];omega))
theorem sizeP {h:AH} {v:V} {u:Un} (b:UnB h v u):ACalls Pg 83 [v] h (pureE (.int .i64 (sizeU u.olds:Nat)) h):=by
 obtain ⟨⟨sv,rfl,b⟩,ok⟩:=b
 refine acalls_forget rfl ?_
 show ACalls Pg 83 _ h (EndsO _ h)
 refine C83 _ _ _ ?_
 refine bindE (new_at (shUn u.lsn b)) fun h1 u1=>?_
 have q1:Keeps [] h h1:=Keeps.new u1
 refine fS_fa (by kernel_rfl) ?_
 refine fV_ld u1.at_ (by kernel_rfl) (w:=sv) rfl ?_
 have b1:=b.keep q1 rfl
 obtain ⟨a,ea⟩:=b1.shape
 rw [List.length_map] at ea
 refine bindV_mk (show aBuiltin Pg h1 .len [127] [sv]=some (.int .i64 u.olds.length,h1) by rw [ea];exact len_slc (by kernel_rfl)) ?_
 exact ⟨u.olds.length + 1,Meet.of (sizeL (h0:=h) u.olds [] _ h1 rfl (by omega) q1 b1 ok.olds ok.len)⟩
end
end Go.Proofs.Ytdfgfbammkojoaa.Sh
namespace Go.Proofs.Ytdfgfbammkojoaa.Sh
open Go Go.Ab Go.RowKit
open Go.Proofs.Ytdfgfbammkojoaa.Ru (Pg okP)
set_option maxRecDepth 10000
set_option maxHeartbeats 4000000
set_option linter.unusedSectionVars false
theorem beqOl (a b:Ol):beqV a.v b.v=some (decide (a=b)):=by
 rw [show beqV a.v b.v=some ((a.live == b.live) && (((a.page:Int) == (b.page:Int)) && (((a.ts:Int) == (b.ts:Int)) && ((((a.np:Int) == (b.np:Int)) && (((a.ns.toNat:Int) == (b.ns.toNat:Int)) && true)) && ((a.dl == b.dl) && true))))) from
   Rcn.bq_a (Rcn.beqVs_c Rcn.bq_b (Rcn.beqVs_c Rcn.bq_i (Rcn.beqVs_c Rcn.bq_i (Rcn.beqVs_c (Rcn.bq_a (Rcn.beqVs_c Rcn.bq_i (Rcn.beqVs_c Rcn.bq_i Rcn.beqVs_n))) (Rcn.beqVs_c Rcn.bq_s Rcn.beqVs_n)))))]
 congr 1
 rw [Bool.eq_iff_iff]
 obtain ⟨a1,a2,a3,a4,a5,a6⟩:=a
 obtain ⟨b1,b2,b3,b4,b5,b6⟩:=b
 simp only [Bool.and_true,Bool.and_eq_true,beq_iff_eq,decide_eq_true_eq,Ol.mk.injEq]
 refine ⟨fun ⟨h1,h2,h3,⟨h4,h5⟩,h6⟩=>⟨h1,by omega,by omega,by omega,UInt8.toNat_inj.1 (by omega),h6⟩,fun ⟨h1,h2,h3,h4,h5,h6⟩=>⟨h1,by omega,by omega,⟨by omega,by rw [h5]⟩,h6⟩⟩
theorem neqOl (a b:Ol) (c:Bool):aBin Pg .neq 36 a.v b.v c=some (.bool (!(decide (a=b)))):=by
 have h1:aBin Pg .neq 36 a.v b.v c=if eqOk Pg 36 a.v b.v c=true then (aEq Pg 36 a.v b.v).map (fun b=>.bool (!b)) else none:=rfl
 have h2:eqOk Pg 36 a.v b.v c=true:=by kernel_rfl
 have h3:plainT Pg 20 36=true:=by kernel_rfl
 rw [h1,h2,if_pos rfl]
 unfold aEq
 rw [h3,if_pos rfl,shOl,shOl,beqOl]
 rfl
theorem of_nf {b:Bool} (h:(!b)=false):b=true:=by cases b <;> simp_all
theorem of_nt {b:Bool} (h:(!b)=true):b=false:=by cases b <;> simp_all
def Ol.fine (o:Ol):Bool:=(o.live || decide (o=Ol.z)) && decide (o.dl.length≤66)
def mayU (l:List Ol):Bool:=decide (l.length≤15) && (match l.getLast? with | some o=>o.live | none=>true) && l.all Ol.fine && decide (sizeU l≤224)
section
variable {h0:AH} {sv:V} {olds:List Ol} {n1:Nat} {u:Un}
theorem mayL (hu:u.olds=olds) (hv:∃ a,sv=.slc a olds.length) (hb:mayU olds=(olds.all Ol.fine && decide (sizeU olds≤224))):∀ (rest pre:List Ol) (m:Nat) (h:AH),olds=pre++rest→rest.length < m→Keeps [] h0 h→UnB h (unV u.lsn sv) u→h.m n1=some (.cells true (.one 129) (unV u.lsn sv))→n1 < h.next→pre.all Ol.fine=true →
   Lz7m (EndsO (.bool (mayU olds)) h0) m (.ptr (some ⟨n1,.one 129,[]⟩)) sv (.int .i64 (olds.length:Nat)) (.int .i64 (pre.length:Nat)) h
 | rest,pre,0,h,e,hm,_,_,_,_,_=>by omega
 | [],pre,m + 1,h,e,hm,q,b,f1,l1,hp=>by
   rw [List.append_nil] at e
   have hlen:olds.length≤1000000:=by rw [← hu];exact b.ok.len
   rw [Lz7m_eq]
   refine fS_lss_f (by rw [e];omega) ?_
   refine i_f ?_
   refine Meet.of (cast_p (Jz6h_eq ..) ?_)
   refine fV_ld f1 (by kernel_rfl) (w:=unV u.lsn sv) rfl ?_
   refine callS (sizeP b) ?_
   have s2:=sizeU_le b.ok.olds
   rw [hu] at s2 ⊢
   by_cases g:sizeU olds≤224
   · refine fS_leq_t (by omega) ?_
     refine ⟨?_,q.all⟩
     rw [hb,decide_eq_true g,e,hp];rfl
   · refine fS_leq_f (by omega) ?_
     refine ⟨?_,q.all⟩
     rw [hb,decide_eq_false g,Bool.and_false]
 | o :: rest,pre,m + 1,h,e,hm,q,b,f1,l1,hp=>by
   have hlen:olds.length=pre.length + 1 + rest.length:=by rw [e];simp;omega
   have hlen2:olds.length≤1000000:=by rw [← hu];exact b.ok.len
   have o1:o.ok:=b.ok.olds o (by rw [hu,e];simp)
   have e':olds=(pre++[o])++rest:=by rw [e];simp
   have rw1:RwB 36 h sv (olds.map Ol.v):=by
     obtain ⟨⟨sv',ev,rb⟩,_⟩:=b
     have:sv'=sv:=by
       have:=(V.agg.inj ev)
       simp only [List.cons.injEq,and_true] at this
       exact this.2.symm
     rw [hu,this] at rb;exact rb
   have d1:=o1.dl
   rw [Lz7m_eq]
   refine fS_lss_t (by omega) ?_
   refine i_t ?_
   refine Meet.of (cast_p (Jz6e_eq ..) ?_)
   refine rowOld rw1 e fun h1 n l1' q1 g1 l2=>?_
   have b1':UnB h1 (unV u.lsn sv) u:=⟨⟨sv,rfl,by rw [hu];exact rw1.keep q1 rfl⟩,b.ok⟩
   have fin:∀ c:Bool,c=!o.fine→Jz6f (EndsO (.bool (mayU olds)) h0) m (.ptr (some ⟨n1,.one 129,[]⟩)) sv (.int .i64 (olds.length:Nat)) (.int .i64 (pre.length:Nat)) (.bool c) h1:=by
     intro c hc
     subst hc
     rw [Jz6f_eq]
     refine i_split (fun g=>?_) (fun g=>?_)
     · refine ⟨?_,(q.trans q1).all⟩
       have gf:o.fine=false:=by simpa using g
       rw [hb,e]
       simp [gf]
     · have gf:o.fine=true:=by simpa using g
       refine Meet.of (cast_p (Jz6g_eq ..) ?_)
       refine fS_add_i64 (by omega) (by omega) ?_
       have:=mayL hu hv hb rest (pre++[o]) m h1 e' (by simp at hm;omega) (q.trans q1) b1' (q1.at f1 l1 rfl) (by have:=q1.next;omega) (by simp [gf];simpa using hp)
       rw [show (((pre++[o]).length:Nat):Int)=(pre.length:Int) + 1 by simp] at this
       exact Meet.of this
   have nxt:∀ c:Bool,c=(!(o.live || decide (o=Ol.z)))→∀ x y:V,aPick x y (.bool false) h1=some (.bool c,h1)→Gz1n (EndsO (.bool (mayU olds)) h0) m (.ptr (some ⟨n1,.one 129,[]⟩)) (.ptr (some ⟨n,.one 36,[]⟩)) sv (.int .i64 (olds.length:Nat)) (.int .i64 (pre.length:Nat)) x y h1:=by
     intro c hc x y hxy
     rw [Gz1n_eq]
     refine bindV_mk hxy ?_
     refine g_split_f (fun g=>?_) (fun g=>?_)
     · rw [g]
       refine fS_fa (by kernel_rfl) ?_
       refine fV_ld g1 (by kernel_rfl) (w:=.str o.dl) rfl ?_
       refine fV_lenS (by kernel_rfl) ?_
       have h2:(o.live || decide (o=Ol.z))=true:=of_nf (by rw [← hc];exact g)
       by_cases g3:o.dl.length≤66
       · refine fS_gtr_f (by omega) ?_
         refine Meet.of (cast_p (Gz1o_eq ..) ?_)
         refine fV_pf ?_
         exact Meet.of (fin _ (by unfold Ol.fine;rw [h2,decide_eq_true g3];rfl))
       · refine fS_gtr_t (by omega) ?_
         refine Meet.of (cast_p (Gz1o_eq ..) ?_)
         refine fV_pf ?_
         exact Meet.of (fin _ (by unfold Ol.fine;rw [decide_eq_false g3,Bool.and_false];rfl))
     · rw [g]
       refine Meet.of (cast_p (Gz1o_eq ..) ?_)
       refine fV_pt ?_
       have h2:(o.live || decide (o=Ol.z))=false:=of_nt (by rw [← hc];exact g)
       exact Meet.of (fin _ (by unfold Ol.fine;rw [h2];rfl))
   refine fS_fa (by kernel_rfl) ?_
   refine fV_ld g1 (by kernel_rfl) (w:=.bool o.live) rfl ?_
   cases hl:o.live with
   | true =>
     refine fS_nt ?_
     refine g_ft ?_
     exact Meet.of (nxt false (by rw [hl];rfl) _ _ (by exact p_f))
   | false =>
     refine fS_nf ?_
     refine g_tt ?_
     refine fV_ld g1 (by kernel_rfl) (w:=o.v) rfl ?_
     refine bindS_mk bOl ?_
     refine bindS_mk (neqOl o Ol.z false) ?_
     exact Meet.of (nxt (!(decide (o=Ol.z))) (by rw [hl];rfl) _ _ (by exact p_t))
theorem mayUP {h:AH} {v:V} {u:Un} (b:UnB h v u):ACalls Pg 68 [v] h (pureE (.bool (mayU u.olds)) h):=by
 obtain ⟨⟨sv,rfl,rb⟩,ok⟩:=b
 refine acalls_forget rfl ?_
 show ACalls Pg 68 _ h (EndsO _ h)
 have hl:=ok.len
 refine C68 _ _ _ ?_
 refine bindE (new_at (shUn u.lsn rb)) fun h1 u1=>?_
 have n1:=u1.next
 have q1:Keeps [] h h1:=Keeps.new u1
 have f1:=u1.at_
 have rb1:=rb.keep q1 rfl
 have b1:UnB h1 (unV u.lsn sv) u:=⟨⟨sv,rfl,rb1⟩,ok⟩
 obtain ⟨a,ea⟩:=rb1.shape
 rw [List.length_map] at ea
 have lenE:∀ h,aBuiltin Pg h .len [127] [sv]=some (.int .i64 u.olds.length,h):=fun h=>by rw [ea];exact len_slc (by kernel_rfl)
 refine fS_fa (by kernel_rfl) ?_
 refine fV_ld f1 (by kernel_rfl) (w:=sv) rfl ?_
 refine bindV_mk (lenE h1) ?_
 -- what is left when the head is fine
 have go:∀ c:Bool,c=!(decide (u.olds.length≤15) && (match u.olds.getLast? with | some o=>o.live | none=>true))→Jz6c (EndsO (.bool (mayU u.olds)) h) (.ptr (some ⟨h.next,.one 129,[]⟩)) (.bool c) h1:=by
   intro c hc
   subst hc
   rw [Jz6c_eq]
   refine i_split (fun g=>?_) (fun g=>?_)
   · refine ⟨?_,q1.all⟩
     have g:(decide (u.olds.length≤15) && (match u.olds.getLast? with | some o=>o.live | none=>true))=false:=of_nt g
     unfold mayU
     rw [g];rfl
   · have g:(decide (u.olds.length≤15) && (match u.olds.getLast? with | some o=>o.live | none=>true))=true:=of_nf g
     refine Meet.of (cast_p (Jz6d_eq ..) ?_)
     refine fS_fa (by kernel_rfl) ?_
     refine fV_ld f1 (by kernel_rfl) (w:=sv) rfl ?_
     refine bindV_mk (lenE h1) ?_
     exact ⟨u.olds.length + 1,Meet.of (mayL (h0:=h) rfl ⟨a,ea⟩ (by unfold mayU;rw [g,Bool.true_and]) u.olds [] _ h1 rfl (by omega) q1 b1 f1 (by omega) rfl)⟩
 by_cases g15:u.olds.length≤15
 · rw [decide_eq_true g15] at go
   refine fS_gtr_f (by omega) ?_
   refine g_ff ?_
   refine fS_fa (by kernel_rfl) ?_
   refine fV_ld f1 (by kernel_rfl) (w:=sv) rfl ?_
   refine bindV_mk (lenE h1) ?_
   cases hg:u.olds.getLast? with
   | none =>
     have hnil:u.olds=[]:=List.getLast?_eq_none_iff.1 hg
     rw [hg] at go
     rw [hnil]
     refine fS_gtr_f (by simp) ?_
     refine Meet.of (cast_p (Gz1k_eq ..) ?_)
     refine g_ft ?_
     refine Meet.of (cast_p (Gz1l_eq ..) ?_)
     refine g_ff ?_
     refine fV_pf ?_
     refine Meet.of (cast_p (Gz1m_eq ..) ?_)
     refine fV_pf ?_
     have:=go false rfl
     rw [hnil] at this
     exact Meet.of this
   | some o =>
     rw [hg] at go
     have hpos:0 < u.olds.length:=by cases hq:u.olds with | nil=>rw [hq] at hg;cases hg | cons a b=>simp
     have hgt:u.olds[u.olds.length - 1]?=some o:=by rw [← List.getLast?_eq_getElem?];exact hg
     refine fS_gtr_t (by omega) ?_
     refine Meet.of (cast_p (Gz1k_eq ..) ?_)
     refine g_tt ?_
     refine fS_fa (by kernel_rfl) ?_
     refine fV_ld f1 (by kernel_rfl) (w:=sv) rfl ?_
     refine fS_fa (by kernel_rfl) ?_
     refine fV_ld f1 (by kernel_rfl) (w:=sv) rfl ?_
     refine bindV_mk (lenE h1) ?_
     refine fS_sub_i64 (by omega) (by omega) ?_
     have hgv:(u.olds.map Ol.v)[u.olds.length - 1]?=some o.v:=by rw [List.getElem?_map,hgt];rfl
     obtain ⟨r,r1,r2,r3⟩:=rb1.get hgv
     rw [List.length_map] at r2
     rw [r2]
     refine bindS_mk (ia_slc _ (by kernel_rfl) (by omega) (by omega)) ?_
     refine fS_fa (by kernel_rfl) ?_
     have ei:0 + ((u.olds.length:Int) - 1).toNat=u.olds.length - 1:=by omega
     refine fV_ld r3 (by kernel_rfl) (w:=.bool o.live) (by
       rw [ei]
       show getV (.agg (u.olds.map Ol.v)) [u.olds.length - 1,0]=_
       simp only [getV,hgv];rfl) ?_
     refine bindS_mk (show aUn .not (.bool o.live)=some (.bool (!o.live)) from rfl) ?_
     refine Meet.of (cast_p (Gz1l_eq ..) ?_)
     refine g_ff ?_
     refine fV_pt ?_
     refine Meet.of (cast_p (Gz1m_eq ..) ?_)
     refine fV_pf ?_
     exact Meet.of (go _ (by simp))
 · rw [decide_eq_false g15] at go
   refine fS_gtr_t (by omega) ?_
   refine g_tf ?_
   refine Meet.of (cast_p (Gz1k_eq ..) ?_)
   refine g_hole ?_
   refine Meet.of (cast_p (Gz1l_eq ..) ?_)
   refine g_tf ?_
   refine Meet.of (cast_p (Gz1m_eq ..) ?_)
   refine fV_pt ?_
   exact Meet.of (go true rfl)
end
end Go.Proofs.Ytdfgfbammkojoaa.Sh
namespace Go.Proofs.Ytdfgfbammkojoaa.Sh
open Go Go.Ab Go.RowKit
open Go.Proofs.Ytdfgfbammkojoaa.Ru (Pg okP)
set_option maxRecDepth 10000
set_option maxHeartbeats 4000000
set_option linter.unusedSectionVars false
def Ol.enc (o:Ol):List UInt8:=if o.live then [1]++putL o.page 2++putL o.ts 4++putL o.np 2++[o.ns,UInt8.ofNat o.dl.length]++o.dl else [0]
theorem enc_sz (o:Ol):o.enc.length=o.sz:=by
 unfold Ol.enc Ol.sz
 split <;> simp [putL_len] <;> omega
def encs (l:List Ol):List UInt8:=l.flatMap Ol.enc
theorem encs_len (l:List Ol):16 + (encs l).length=sizeU l:=by
 unfold encs sizeU
 induction l with
 | nil=>rfl
 | cons o l ih =>
   simp only [List.flatMap_cons,List.length_append,List.map_cons,List.sum_cons,enc_sz]
   omega
theorem encs_snoc (l:List Ol) (o:Ol):encs (l++[o])=encs l++o.enc:=by unfold encs;simp
def bodT (n:Nat) (l:List Ol):List UInt8:=(zer 15++[UInt8.ofNat n]++encs l)++zer (224 - sizeU l)
def bodU (l:List Ol):List UInt8:=bodT l.length l
theorem bodT_len {n:Nat} {l:List Ol} (h:sizeU l≤224):(bodT n l).length=224:=by
 have:=encs_len l
 unfold bodT
 simp only [List.length_append,zer_len,List.length_singleton]
 omega
noncomputable def putU (no:Nat) (u:Un):List UInt8:=sealF 2 no u.lsn (bodU u.olds)
theorem putU_len {no:Nat} {u:Un} (h:mayU u.olds=true):(putU no u).length=224:=by
 unfold mayU at h
 simp only [Bool.and_eq_true,decide_eq_true_eq] at h
 exact sealF_len (bodT_len h.2)
noncomputable def putUV (no:Nat) (u:Un):V:=if mayU u.olds then .tup [.agg (bytesV (putU no u)),.int .i64 0] else .tup [.agg (bytesV (zer 224)),.int .i64 1]
theorem lit2 (x y:Int):litConv Pg 114 2 [(0,.int .u8 x),(1,.int .u8 y)] 114 9=some (.str [UInt8.ofNat x.toNat,UInt8.ofNat y.toNat]):=by kernel_rfl
section
variable {h0:AH} {sv:V} {olds:List Ol} {n1 n3 n6 no:Nat} {u:Un}
theorem putUL (hu:u.olds=olds) (hno:no < 65536) (hm:mayU olds=true):∀ (rest pre:List Ol) (m:Nat) (h:AH),olds=pre++rest→rest.length < m→Keeps [] h0 h→UnB h (unV u.lsn sv) u→h.m n1=some (.cells true (.one 129) (unV u.lsn sv))→n1 < h.next→(∃ w,h.m n3=some (.cells true (.one 31) w))→n3 < h.next→h0.next≤n3→n3≠n6 →
   h.m n6=some (.cells true (.one 31) (.agg (bytesV (bodT olds.length pre))))→n6 < h.next→h0.next≤n6 →
   Lz7h (EndsO (putUV no u) h0) m (.int .u16 no) (.ptr (some ⟨n1,.one 129,[]⟩)) (paB n3) (paB n6) (.int .i64 (sizeU pre:Nat)) sv (.int .i64 (olds.length:Nat)) (.int .i64 (pre.length:Nat)) h
 | rest,pre,0,h,e,hm,_,_,_,_,_,_,_,_,_,_,_=>by omega
 | [],pre,m + 1,h,e,hmm,q,b,f1,l1,f3,l3,y3,ne,f6,l6,y6=>by
   rw [List.append_nil] at e
   subst e
   have hs:sizeU olds≤224:=by
     unfold mayU at hm
     simp only [Bool.and_eq_true,decide_eq_true_eq] at hm
     exact hm.2
   have hl:=b.ok.lsn
   have bl:(bodT olds.length olds).length=224:=bodT_len hs
   rw [Lz7h_eq]
   refine fS_lss_f (by omega) ?_
   refine i_f ?_
   refine Meet.of (cast_p (Jz51_eq ..) ?_)
   refine fS_fa (by kernel_rfl) ?_
   refine fV_ld f1 (by kernel_rfl) (w:=.int .u64 u.lsn) rfl ?_
   refine fV_ld f6 (by kernel_rfl) (w:=.agg (bytesV (bodT olds.length olds))) rfl ?_
   refine callS (psealP (kind:=2) bl hno hl h) ?_
   obtain ⟨w,f3⟩:=f3
   have el:(putU no u).length=224:=putU_len (by rw [hu];exact hm)
   have ep:sealF 2 no u.lsn (bodT olds.length olds)=putU no u:=by unfold putU bodU;rw [hu]
   rw [ep]
   refine bindE (st_at (p:=[]) f3 (by kernel_rfl) rfl (shPay el) rfl) fun h7 u7=>?_
   have e1:=ld_mk (P:=Pg) (t:=31) (p:=[]) u7.at_ (by kernel_rfl) (w:=.agg (bytesV (putU no u))) rfl
   simp only [aLoadV] at e1
   have e2:=(still_some e1).1
   refine bindR_mk (show aRes Pg _ _ R44=some [.agg (bytesV (putU no u)),.int .i64 0] by simp [R44,aRes,Env.get,e2]) ?_
   refine ⟨?_,(q.young u7 y3).all⟩
   unfold putUV
   rw [hu,if_pos hm];rfl
 | o :: rest,pre,m + 1,h,e,hmm,q,b,f1,l1,f3,l3,y3,ne,f6,l6,y6=>by
   have hlen:olds.length=pre.length + 1 + rest.length:=by rw [e];simp;omega
   have hlen2:olds.length≤1000000:=by rw [← hu];exact b.ok.len
   have o1:o.ok:=b.ok.olds o (by rw [hu,e];simp)
   have e':olds=(pre++[o])++rest:=by rw [e];simp
   have s0:sizeU olds≤224:=by
     unfold mayU at hm
     simp only [Bool.and_eq_true,decide_eq_true_eq] at hm
     exact hm.2
   have s1:sizeU (pre++[o])=sizeU pre + o.sz:=by rw [sizeU_app];simp
   have s3:sizeU pre + o.sz≤224:=by
     have:sizeU olds=sizeU pre + o.sz + (rest.map Ol.sz).sum:=by rw [e,sizeU_app];simp;omega
     omega
   have d66:o.dl.length≤223:=by
     by_cases g:o.live=true
     · have:o.sz=1 + (10 + o.dl.length):=by unfold Ol.sz;rw [if_pos g]
       omega
     · have hf:o.fine=true:=by
         unfold mayU at hm
         simp only [Bool.and_eq_true,decide_eq_true_eq] at hm
         exact List.all_eq_true.1 hm.1.2 o (by rw [e];simp)
       unfold Ol.fine at hf
       simp only [Bool.and_eq_true,decide_eq_true_eq] at hf
       omega
   have rw1:RwB 36 h sv (olds.map Ol.v):=by
     obtain ⟨⟨sv',ev,rb⟩,_⟩:=b
     have:sv'=sv:=by
       have:=(V.agg.inj ev)
       simp only [List.cons.injEq,and_true] at this
       exact this.2.symm
     rw [hu,this] at rb;exact rb
   rw [Lz7h_eq]
   refine fS_lss_t (by omega) ?_
   refine i_t ?_
   refine Meet.of (cast_p (Jz4y_eq ..) ?_)
   refine rowOld rw1 e fun h1 n l1' q1 g1 l2=>?_
   have n1':=q1.next
   have b1:UnB h1 (unV u.lsn sv) u:=⟨⟨sv,rfl,by rw [hu];exact rw1.keep q1 rfl⟩,b.ok⟩
   have f61:=q1.at f6 l6 rfl
   have bl:(bodT olds.length pre).length=224:=bodT_len (by omega)
   -- the text is copied
   have fin:Jz4z (EndsO (putUV no u) h0) m (.int .u16 no) (.ptr (some ⟨n1,.one 129,[]⟩)) (paB n3) (paB n6) (.int .i64 (sizeU pre:Nat)) (.str o.enc) sv (.int .i64 (olds.length:Nat)) (.int .i64 (pre.length:Nat)) h1:=by
     rw [Jz4z_eq]
     refine bindS_mk (slB (lo:=some (.int .i64 (sizeU pre:Nat))) (hi:=none) (n:=224) f61 (by kernel_rfl) (a:=sizeU pre) (b:=224) (bnd_i (by omega)) rfl (by omega) (by omega)) ?_
     refine bindE (cpS_at (ws:=o.enc) f61 (by kernel_rfl) (by omega)) fun h2 u2=>?_
     have n2:=u2.next
     have em:min o.enc.length (224 - sizeU pre)=o.sz:=by rw [enc_sz];omega
     rw [em]
     refine fS_add_i64 (by omega) (by omega) ?_
     refine Meet.of (cast_p (Jz50_eq ..) ?_)
     refine fS_add_i64 (by omega) (by omega) ?_
     have ec:copyB (bodT olds.length pre) (sizeU pre) (224 - sizeU pre) o.enc=bodT olds.length (pre++[o]):=by
       unfold bodT
       have ea:(zer 15++[UInt8.ofNat olds.length]++encs pre).length=sizeU pre:=by
         have:=encs_len pre
         simp only [List.length_append,zer_len,List.length_singleton];omega
       have h1:copyB ((zer 15++[UInt8.ofNat olds.length]++encs pre)++zer (224 - sizeU pre)) (sizeU pre) (224 - sizeU pre) o.enc=copyB ((zer 15++[UInt8.ofNat olds.length]++encs pre)++zer (224 - sizeU pre)) (zer 15++[UInt8.ofNat olds.length]++encs pre).length o.sz o.enc:=by
         rw [ea]
         unfold copyB
         rw [em,show min o.enc.length o.sz=o.sz by rw [enc_sz];omega]
       rw [h1,copy_zer _ _ _ _ (by rw [enc_sz];omega) (by omega),s1,encs_snoc,List.take_of_length_le (by rw [enc_sz];omega),show 224 - sizeU pre - o.sz=224 - (sizeU pre + o.sz) by omega]
       simp only [List.append_assoc]
     have f62:h2.m n6=some (.cells true (.one 31) (.agg (bytesV (bodT olds.length (pre++[o]))))):=by rw [← ec];exact u2.at_
     have q2:Keeps [(0,31,0)] h1 h2:=Keeps.upd u2 f61 rfl rfl
     have b2:UnB h2 (unV u.lsn sv) u:=⟨⟨sv,rfl,by rw [hu];exact (rw1.keep q1 rfl).keep q2 rfl⟩,b.ok⟩
     obtain ⟨w,f3⟩:=f3
     have:=putUL hu hno hm rest (pre++[o]) m h2 e' (by simp at hmm;omega) ((q.trans q1).young u2 y6) b2 (q2.at (q1.at f1 l1 rfl) (by omega) rfl) (by omega) ⟨w,(u2.other _ ne).trans (q1.at f3 l3 rfl)⟩ (by omega) y3 ne f62 (by omega) y6
     rw [show (((pre++[o]).length:Nat):Int)=(pre.length:Int) + 1 by simp,show ((sizeU (pre++[o]):Nat):Int)=(sizeU pre:Int) + (o.sz:Nat) by rw [s1];omega] at this
     exact Meet.of this
   refine fS_fa (by kernel_rfl) ?_
   refine fV_ld g1 (by kernel_rfl) (w:=.bool o.live) rfl ?_
   cases hl:o.live with
   | false =>
     have ee:o.enc=[0]:=by unfold Ol.enc;rw [if_neg (by rw [hl];decide)]
     rw [ee] at fin
     exact i_f (Meet.of fin)
   | true =>
     have ee:o.enc=[1]++putL o.page 2++putL o.ts 4++putL o.np 2++[o.ns,UInt8.ofNat o.dl.length]++o.dl:=by unfold Ol.enc;rw [if_pos hl]
     rw [ee] at fin
     have p1:=o1.page
     have p2:=o1.ts
     have p3:=o1.np
     have p4:=o.ns.toNat_lt
     refine i_t ?_
     refine fO_fa (by kernel_rfl) ?_
     refine fW_ld g1 (by kernel_rfl) (w:=.int .u16 o.page) rfl ?_
     refine fO_cv_u64 (by decide +kernel) (by omega) (by omega) ?_
     refine ⟨_,putP2 o.page h1,?_⟩
     refine bindSO_mk (t_add (by simp [putL_len])) ?_
     refine fO_fa (by kernel_rfl) ?_
     refine fW_ld g1 (by kernel_rfl) (w:=.int .u32 o.ts) rfl ?_
     refine fO_cv_u64 (by decide +kernel) (by omega) (by omega) ?_
     refine ⟨_,putP4 o.ts h1,?_⟩
     refine bindSO_mk (t_add (by simp [putL_len])) ?_
     refine fO_fa (by kernel_rfl) ?_
     refine fO_fa (by kernel_rfl) ?_
     refine fW_ld g1 (by kernel_rfl) (w:=.int .u16 o.np) rfl ?_
     refine fO_cv_u64 (by decide +kernel) (by omega) (by omega) ?_
     refine ⟨_,putP2 o.np h1,?_⟩
     refine bindSO_mk (t_add (by simp [putL_len])) ?_
     refine fO_fa (by kernel_rfl) ?_
     refine fO_fa (by kernel_rfl) ?_
     refine fW_ld g1 (by kernel_rfl) (w:=.int .u8 o.ns.toNat) rfl ?_
     refine fO_fa (by kernel_rfl) ?_
     refine fW_ld g1 (by kernel_rfl) (w:=.str o.dl) rfl ?_
     refine fW_lenS (by kernel_rfl) ?_
     refine fO_cv_u8 (by decide +kernel) (by omega) (by omega) ?_
     refine bindO_mk' (lit2 _ _) ?_
     have en:UInt8.ofNat ((o.ns.toNat:Int).toNat)=o.ns:=by simp
     have ed:UInt8.ofNat ((o.dl.length:Int).toNat)=UInt8.ofNat o.dl.length:=by simp
     rw [en,ed]
     refine bindSO_mk (t_add (by simp [putL_len])) ?_
     refine fO_fa (by kernel_rfl) ?_
     refine fW_ld g1 (by kernel_rfl) (w:=.str o.dl) rfl ?_
     refine bindSO_mk (t_add (by simp [putL_len];omega)) ?_
     exact Meet.of fin
theorem putUP {h:AH} {v:V} {u:Un} (b:UnB h v u) {no:Nat} (hno:no < 65536):ACalls Pg 44 [.int .u16 no,v] h (pureE (putUV no u) h):=by
 obtain ⟨⟨sv,rfl,rb⟩,ok⟩:=b
 have ho:oldV (fun n=>(h.m n).isSome) (putUV no u)=true:=by
   unfold putUV
   split <;> (show oldVs _ [_,_]=true;have e:=old_bytes (fun n=>(h.m n).isSome);simp only [oldV] at e;simp only [oldVs,oldV,e,Bool.and_self])
 refine acalls_forget ho ?_
 show ACalls Pg 44 _ h (EndsO _ h)
 have hl:=ok.len
 refine C44 _ _ _ _ ?_
 refine bindE (new_at (shUn u.lsn rb)) fun h1 u1=>?_
 have n1:=u1.next
 have q1:Keeps [] h h1:=Keeps.new u1
 refine bindE (al_at zPay (shPay (zer_len 224))) fun h2 u2=>?_
 have n2:=u2.next
 have q2:Keeps [] h1 h2:=Keeps.new u2
 have q12:=q1.trans q2
 have f1:=q2.at u1.at_ (by omega) rfl
 have f3:=u2.at_
 have b2:UnB h2 (unV u.lsn sv) u:=⟨⟨sv,rfl,rb.keep q12 rfl⟩,ok⟩
 refine fV_ld f1 (by kernel_rfl) (w:=unV u.lsn sv) rfl ?_
 refine callS (mayUP b2) ?_
 cases hm:mayU u.olds with
 | false =>
   refine fS_nf ?_
   refine i_t ?_
   refine bindS_mk (show aBuild Pg 31 []=some (.agg (bytesV (zer 224))) by kernel_rfl) ?_
   refine bindE (st_at (p:=[]) f3 (by kernel_rfl) rfl (shPay (zer_len 224)) rfl) fun h7 u7=>?_
   have e1:=ld_mk (P:=Pg) (t:=31) (p:=[]) u7.at_ (by kernel_rfl) (w:=.agg (bytesV (zer 224))) rfl
   simp only [aLoadV] at e1
   have e2:=(still_some e1).1
   refine bindR_mk (show aRes Pg _ _ R44=some [.agg (bytesV (zer 224)),.int .i64 1] by simp [R44,aRes,Env.get,e2]) ?_
   refine ⟨?_,(q12.young u7 (by omega)).all⟩
   unfold putUV
   rw [hm];rfl
 | true =>
   have h15:u.olds.length≤15:=by
     unfold mayU at hm
     simp only [Bool.and_eq_true,decide_eq_true_eq] at hm
     exact hm.1.1.1
   refine fS_nt ?_
   refine i_f ?_
   refine Meet.of (cast_p (Jz4x_eq ..) ?_)
   refine bindE (al_at zPay (shPay (zer_len 224))) fun h3 u3=>?_
   have n3:=u3.next
   have q3:Keeps [] h2 h3:=Keeps.new u3
   have g1:=q3.at f1 (by omega) rfl
   have b3:UnB h3 (unV u.lsn sv) u:=⟨⟨sv,rfl,rb.keep (q12.trans q3) rfl⟩,ok⟩
   obtain ⟨a,ea⟩:=rb.shape
   rw [List.length_map] at ea
   have lenE:∀ h,aBuiltin Pg h .len [127] [sv]=some (.int .i64 u.olds.length,h):=fun h=>by rw [ea];exact len_slc (by kernel_rfl)
   refine fS_fa (by kernel_rfl) ?_
   refine fV_ld g1 (by kernel_rfl) (w:=sv) rfl ?_
   refine bindV_mk (lenE h3) ?_
   refine fS_cv_u8 (by decide +kernel) (by omega) (by omega) ?_
   refine bindS_mk (show aIndexAddr Pg 31 (.ptr (some ⟨h2.next,.one 31,[]⟩)) (.int .i64 15)=some _ from ia_arr 224 5 (by kernel_rfl) (by omega) (by omega)) ?_
   have e15:(UInt8.ofNat u.olds.length).toNat=u.olds.length:=by rw [UInt8.toNat_ofNat_of_lt' (by simp [UInt8.size];omega)]
   refine bindE (st_at u3.at_ (by kernel_rfl) (bgetA (i:=15) (by rw [zer_len];omega)) (by kernel_rfl) (by
     have:=bsetA (l:=zer 224) (i:=15) (by rw [zer_len];omega) (UInt8.ofNat u.olds.length)
     rw [e15] at this;exact this)) fun h4 u4=>?_
   have n4:=u4.next
   have q4:Keeps [] h h4:=(q12.trans q3).young u4 (by omega)
   have q34:Keeps [] h1 h4:=(q2.trans q3).young u4 (by omega)
   have g41:=q34.at u1.at_ (by omega) rfl
   have b4:UnB h4 (unV u.lsn sv) u:=⟨⟨sv,rfl,rb.keep q4 rfl⟩,ok⟩
   have g43:h4.m h1.next=some (.cells true (.one 31) (.agg (bytesV (zer 224)))):=(u4.other _ (by omega)).trans (q3.at f3 (by omega) rfl)
   have eb:(zer 224).set 15 (UInt8.ofNat u.olds.length)=bodT u.olds.length []:=by
     have:=set_zer (zer 15) 208 (UInt8.ofNat u.olds.length)
     have e1:zer 15++zer (208 + 1)=zer 224:=by unfold zer;rw [List.replicate_append_replicate]
     rw [e1,zer_len] at this
     rw [this]
     unfold bodT encs sizeU
     simp
   have g46:h4.m h2.next=some (.cells true (.one 31) (.agg (bytesV (bodT u.olds.length [])))):=by rw [← eb];exact u4.at_
   refine fS_fa (by kernel_rfl) ?_
   refine fV_ld g41 (by kernel_rfl) (w:=sv) rfl ?_
   refine bindV_mk (lenE h4) ?_
   exact ⟨u.olds.length + 1,Meet.of (putUL (h0:=h) rfl hno hm u.olds [] (u.olds.length + 1) h4 rfl (by omega) q4 b4 g41 (by omega) ⟨_,g43⟩ (by omega) (by omega) (by omega) g46 (by omega) (by omega))⟩
noncomputable def blank (i:Bool × Nat):List UInt8:=if i.1 then putU i.2 ⟨0,[]⟩ else putD i.2 Dt.z
theorem may_nil:mayU []=true:=by decide
theorem blank_len (i:Bool × Nat):(blank i).length=224:=by
 unfold blank
 split
 · exact putU_len may_nil
 · exact putD_len _
theorem blankP {i:Bool × Nat} (hi:i.2 < 65536) (h:AH):ACalls Pg 16 [pidV i.1 i.2] h (pureE (.agg (bytesV (blank i))) h):=by
 obtain ⟨iu,ino⟩:=i
 cases iu with
 | false=>exact blankDP hi h
 | true =>
   refine pure_lift (by simp only [pidV,flatBs,flatB,Bool.and_self]) (by simp only [flatB,flat_bytes]) ?_ h
   refine C16 _ _ _ ?_
   refine bindE (new_at (shPid true ino)) fun h1 u1=>?_
   have n1:=u1.next
   refine bindE (al_at zPay (shPay (zer_len 224))) fun h2 u2=>?_
   have n2:=u2.next
   have f1:=(u2.other _ (by omega)).trans u1.at_
   refine bindS_mk (fa_mk (by kernel_rfl)) ?_
   refine bindV_mk (ld_mk f1 (by kernel_rfl) (w:=.bool true) rfl) ?_
   refine i_t ?_
   refine bindS_mk (fa_mk (by kernel_rfl)) ?_
   refine bindV_mk (ld_mk f1 (by kernel_rfl) (w:=.int .u16 ino) rfl) ?_
   refine bindS_mk (show aBuild Pg 129 []=some (unV 0 (.slc none 0)) by kernel_rfl) ?_
   have b0:UnB h2 (unV 0 (.slc none 0)) ⟨0,[]⟩:=⟨⟨.slc none 0,rfl,.inl ⟨rfl,rfl⟩⟩,by show 0 < _;omega,(fun _ h=>nomatch h),by simp⟩
   refine callS (putUP b0 hi) ?_
   rw [show putUV ino ⟨0,[]⟩=.tup [.agg (bytesV (putU ino ⟨0,[]⟩)),.int .i64 0] by unfold putUV;rw [if_pos may_nil]]
   have pl:(putU ino ⟨0,[]⟩).length=224:=putU_len may_nil
   refine fS_e0 ?_
   refine fS_e1 ?_
   refine bindE (al_at zPay (shPay (zer_len 224))) fun h3 u3=>?_
   have n3:=u3.next
   refine bindE (st_at (p:=[]) u3.at_ (by kernel_rfl) rfl (shPay pl) rfl) fun h4 u4=>?_
   refine bindV_mk (ld_mk (p:=[]) u4.at_ (by kernel_rfl) rfl) ?_
   have f4:h4.m h1.next=some (.cells true (.one 31) (.agg (bytesV (zer 224)))):=(u4.other _ (by omega)).trans ((u3.other _ (by omega)).trans u2.at_)
   refine bindE (st_at (p:=[]) f4 (by kernel_rfl) rfl (shPay pl) rfl) fun h5 u5=>?_
   have q1:=ld_mk (P:=Pg) (t:=31) (p:=[]) u5.at_ (by kernel_rfl) (w:=.agg (bytesV (putU ino ⟨0,[]⟩))) rfl
   simp only [aLoadV] at q1
   have q2:=(still_some q1).1
   refine bindR_mk (show aRes Pg _ _ R16=some [.agg (bytesV (putU ino ⟨0,[]⟩))] by simp [R16,aRes,Env.get,q2]) ?_
   rfl
end
end Go.Proofs.Ytdfgfbammkojoaa.Sh
namespace Go.Proofs.Ytdfgfbammkojoaa.Sh
open Go Go.Ab Go.RowKit
open Go.Proofs.Ytdfgfbammkojoaa.Ru (Pg okP)
set_option maxRecDepth 100000
noncomputable def B3:Code:=(Try.f3.body).getD .skip
def R3:List ResultVar:=[.tmp 2]
abbrev N3:Nat:=131
def K3:KT:=(.seq .leaf (.seq .leaf (.join (.seq .leaf (.two (.seq .leaf .leaf [2]) .leaf) [0,4,22]) (.seq .leaf (.join (.seq .leaf (.one (.loop (.join (.join (.reg [[0,4,5,6,27,29]]) (.two .leaf .leaf) [0,4,5,6,30]) (.join (.one (.seq .leaf (.join (.reg [[0,4,5,6,7,40,44]]) (.two .leaf .leaf) [0,4,5,6,7,45]) [0,4,5,6,7])) .leaf [0,4,5,6]) [0,4,5,6]) [0,4,5,6])) [0,4,5,6]) (.join (.seq .leaf (.two (.seq .leaf .leaf [2]) .leaf) [4,5,52]) (.join (.seq .leaf (.one (.loop (.join (.seq .leaf (.two .leaf .leaf) [4,5,8,55]) (.join (.one (.seq .leaf (.seq .leaf (.join (.seq .leaf (.two .leaf .leaf) [4,5,8,9,10,69]) (.seq .leaf (.seq (.efn [4,8,9] [8] 9 4) (.seq .leaf (.seq (.efn [4,8,9] [8] 9 4) (.join (.join (.reg [[4,11,12,14,15,16,94,96],[4,11,12,14,15,98,100],[4,11,12,14,15,102,106],[4,11,12,14,15,108,112],[4,11,12,15,114,116],[12,15,118,123]]) (.two (.seq .leaf .leaf [2]) .leaf) [12,15,124]) (.join (.reg [[128,129]]) .leaf [2]) [12,15]) [4,10,11,12,13,14,15,16]) [4,9,10,11,12,13,14]) [4,9,10,11,12,13]) [4,9,10,11]) [4,9,10]) [4,5,8,9,10]) [4,5,8,9])) .leaf [4,5,8]) [4,5,8]) [4,5,8])) [4,5,8]) (.seq .leaf .leaf [2]) []) [4,5]) [4,5]) [0,4,5]) [0,4]) [0,4]) [0])
def Jz4d (Q:AEnd→AH→Prop) (n:Nat) (x0 x4 x5 x6:V) (h:AH):Prop:=vcAt Pg N3 B3 K3 [1,1,1,1,0,1,0,0,1,1] [n] (vcRet Pg R3 Q) [(0,x0),(4,x4),(5,x5),(6,x6)] h
def Jz4c (Q:AEnd→AH→Prop) (n:Nat) (x0 x4 x5 x6 x7 x45:V) (h:AH):Prop:=vcAt Pg N3 B3 K3 [1,1,1,1,0,1,0,0,1,0,0,1,1] [n] (vcRet Pg R3 Q) [(0,x0),(4,x4),(5,x5),(6,x6),(7,x7),(45,x45)] h
def Gzk (Q:AEnd→AH→Prop) (n:Nat) (x0 x4 x5 x6 x7 x40 x44:V) (h:AH):Prop:=segAt Pg N3 B3 K3 [1,1,1,1,0,1,0,0,1,0,0,1,0] 2 1 [n] (vcRet Pg R3 Q) [(0,x0),(4,x4),(5,x5),(6,x6),(7,x7),(40,x40),(44,x44)] h
def Jz4b (Q:AEnd→AH→Prop) (n:Nat) (x0 x4 x5 x6:V) (h:AH):Prop:=vcAt Pg N3 B3 K3 [1,1,1,1,0,1,0,0,1] [n] (vcRet Pg R3 Q) [(0,x0),(4,x4),(5,x5),(6,x6)] h
def Jz4l (Q:AEnd→AH→Prop) (n:Nat) (x4 x5 x8:V) (h:AH):Prop:=vcAt Pg N3 B3 K3 [1,1,1,1,1,1,0,1,0,0,1,1] [n] (vcRet Pg R3 Q) [(4,x4),(5,x5),(8,x8)] h
def Jz4k (Q:AEnd→AH→Prop) (n:Nat) (x2:V) (h:AH):Prop:=vcAt Pg N3 B3 K3 [1,1,1,1,1,1,0,1,0,0,1,0,0,1,1,1,1,1,1,1,1,1] [n] (vcRet Pg R3 Q) [(2,x2)] h
def Gzr (Q:AEnd→AH→Prop) (n:Nat) (x128 x129:V) (h:AH):Prop:=segAt Pg N3 B3 K3 [1,1,1,1,1,1,0,1,0,0,1,0,0,1,1,1,1,1,1,1,1,0] 2 1 [n] (vcRet Pg R3 Q) [(128,x128),(129,x129)] h
def Jz4j (Q:AEnd→AH→Prop) (n:Nat) (x12 x15:V) (h:AH):Prop:=vcAt Pg N3 B3 K3 [1,1,1,1,1,1,0,1,0,0,1,0,0,1,1,1,1,1,1,1,1] [n] (vcRet Pg R3 Q) [(12,x12),(15,x15)] h
def Jz4i (Q:AEnd→AH→Prop) (n:Nat) (x12 x15 x124:V) (h:AH):Prop:=vcAt Pg N3 B3 K3 [1,1,1,1,1,1,0,1,0,0,1,0,0,1,1,1,1,1,1,1,0,1] [n] (vcRet Pg R3 Q) [(12,x12),(15,x15),(124,x124)] h
def Gzq (Q:AEnd→AH→Prop) (n:Nat) (x12 x15 x118 x123:V) (h:AH):Prop:=segAt Pg N3 B3 K3 [1,1,1,1,1,1,0,1,0,0,1,0,0,1,1,1,1,1,1,1,0,0] 12 6 [n] (vcRet Pg R3 Q) [(12,x12),(15,x15),(118,x118),(123,x123)] h
def Gzp (Q:AEnd→AH→Prop) (n:Nat) (x4 x11 x12 x15 x114 x116:V) (h:AH):Prop:=segAt Pg N3 B3 K3 [1,1,1,1,1,1,0,1,0,0,1,0,0,1,1,1,1,1,1,1,0,0] 10 5 [n] (vcRet Pg R3 Q) [(4,x4),(11,x11),(12,x12),(15,x15),(114,x114),(116,x116)] h
def Gzo (Q:AEnd→AH→Prop) (n:Nat) (x4 x11 x12 x14 x15 x108 x112:V) (h:AH):Prop:=segAt Pg N3 B3 K3 [1,1,1,1,1,1,0,1,0,0,1,0,0,1,1,1,1,1,1,1,0,0] 8 4 [n] (vcRet Pg R3 Q) [(4,x4),(11,x11),(12,x12),(14,x14),(15,x15),(108,x108),(112,x112)] h
def Gzn (Q:AEnd→AH→Prop) (n:Nat) (x4 x11 x12 x14 x15 x102 x106:V) (h:AH):Prop:=segAt Pg N3 B3 K3 [1,1,1,1,1,1,0,1,0,0,1,0,0,1,1,1,1,1,1,1,0,0] 6 3 [n] (vcRet Pg R3 Q) [(4,x4),(11,x11),(12,x12),(14,x14),(15,x15),(102,x102),(106,x106)] h
def Gzm (Q:AEnd→AH→Prop) (n:Nat) (x4 x11 x12 x14 x15 x98 x100:V) (h:AH):Prop:=segAt Pg N3 B3 K3 [1,1,1,1,1,1,0,1,0,0,1,0,0,1,1,1,1,1,1,1,0,0] 4 2 [n] (vcRet Pg R3 Q) [(4,x4),(11,x11),(12,x12),(14,x14),(15,x15),(98,x98),(100,x100)] h
def Gzl (Q:AEnd→AH→Prop) (n:Nat) (x4 x11 x12 x14 x15 x16 x94 x96:V) (h:AH):Prop:=segAt Pg N3 B3 K3 [1,1,1,1,1,1,0,1,0,0,1,0,0,1,1,1,1,1,1,1,0,0] 2 1 [n] (vcRet Pg R3 Q) [(4,x4),(11,x11),(12,x12),(14,x14),(15,x15),(16,x16),(94,x94),(96,x96)] h
def Jz4h (Q:AEnd→AH→Prop) (n:Nat) (x4 x9 x10:V) (h:AH):Prop:=vcAt Pg N3 B3 K3 [1,1,1,1,1,1,0,1,0,0,1,0,0,1,1,1] [n] (vcRet Pg R3 Q) [(4,x4),(9,x9),(10,x10)] h
def Jz4g (Q:AEnd→AH→Prop) (n:Nat) (x4 x5 x8:V) (h:AH):Prop:=vcAt Pg N3 B3 K3 [1,1,1,1,1,1,0,1,0,0,1] [n] (vcRet Pg R3 Q) [(4,x4),(5,x5),(8,x8)] h
def Jz4m (Q:AEnd→AH→Prop) (h:AH):Prop:=vcAt Pg N3 B3 K3 [1,1,1,1,1,1,1] [] (vcRet Pg R3 Q) [] h
def Lz7f (Q:AEnd→AH→Prop) (n:Nat) (x4 x5 x8:V) (h:AH):Prop:=loopAt Pg N3 B3 K3 [1,1,1,1,1,1,0,1,0] [] n (vcRet Pg R3 Q) [(4,x4),(5,x5),(8,x8)] h
def Jz4f (Q:AEnd→AH→Prop) (x4 x5:V) (h:AH):Prop:=vcAt Pg N3 B3 K3 [1,1,1,1,1,1] [] (vcRet Pg R3 Q) [(4,x4),(5,x5)] h
def Jz4e (Q:AEnd→AH→Prop) (x4 x5:V) (h:AH):Prop:=vcAt Pg N3 B3 K3 [1,1,1,1,1] [] (vcRet Pg R3 Q) [(4,x4),(5,x5)] h
def Jz4a (Q:AEnd→AH→Prop) (n:Nat) (x0 x4 x5 x6 x30:V) (h:AH):Prop:=vcAt Pg N3 B3 K3 [1,1,1,1,0,1,0,0,0,1] [n] (vcRet Pg R3 Q) [(0,x0),(4,x4),(5,x5),(6,x6),(30,x30)] h
def Gzj (Q:AEnd→AH→Prop) (n:Nat) (x0 x4 x5 x6 x27 x29:V) (h:AH):Prop:=segAt Pg N3 B3 K3 [1,1,1,1,0,1,0,0,0,0] 2 1 [n] (vcRet Pg R3 Q) [(0,x0),(4,x4),(5,x5),(6,x6),(27,x27),(29,x29)] h
def Lz7e (Q:AEnd→AH→Prop) (n:Nat) (x0 x4 x5 x6:V) (h:AH):Prop:=loopAt Pg N3 B3 K3 [1,1,1,1,0,1,0] [] n (vcRet Pg R3 Q) [(0,x0),(4,x4),(5,x5),(6,x6)] h
def Jz49 (Q:AEnd→AH→Prop) (x0 x4:V) (h:AH):Prop:=vcAt Pg N3 B3 K3 [1,1,1] [] (vcRet Pg R3 Q) [(0,x0),(4,x4)] h
theorem Jz4d_eq (Q:AEnd→AH→Prop) (n:Nat) (x0 x4 x5 x6:V) (h:AH):Jz4d Q n x0 x4 x5 x6 h=(
 bindV (still (aBin Pg .add 3 x6 (V.int .i64 1) true) h) fun v37 h38 =>
 Meet (Lz7e Q n x0 x4 x5 v37 h38)):=by kernel_rfl
theorem Jz4c_eq (Q:AEnd→AH→Prop) (n:Nat) (x0 x4 x5 x6 x7 x45:V) (h:AH):Jz4c Q n x0 x4 x5 x6 x7 x45 h=(
 vcIf x45 (
 bindV (aLoadV Pg h 38 x7) fun v31 h32 =>
 bindV (aBuildSlice Pg h32 22 1 [(0,v31)]) fun v33 h34 =>
 bindV (aBuiltin Pg h34 .append [22,22] [x5,v33]) fun v35 h36 =>
 Meet (Jz4d Q n x0 x4 v35 x6 h36)) (
 Meet (Jz4d Q n x0 x4 x5 x6 h))):=by kernel_rfl
theorem Gzk_eq (Q:AEnd→AH→Prop) (n:Nat) (x0 x4 x5 x6 x7 x40 x44:V) (h:AH):Gzk Q n x0 x4 x5 x6 x7 x40 x44 h=(
 bindV (aPick x40 x44 (V.bool false) h) fun v29 h30 =>
 Meet (Jz4c Q n x0 x4 x5 x6 x7 v29 h30)):=by kernel_rfl
theorem Jz4b_eq (Q:AEnd→AH→Prop) (n:Nat) (x0 x4 x5 x6:V) (h:AH):Jz4b Q n x0 x4 x5 x6 h=(
 bindV (still (aIndexAddr Pg 22 x0 x6) h) fun v15 h16 =>
 bindV (aLoadV Pg h16 38 v15) fun v17 h18 =>
 bindV (aAlloc Pg h18 38) fun v19 h20 =>
 bindV (aStoreV Pg h20 38 v19 v17) fun _ h22 =>
 bindV (still (aFieldAddr Pg 38 v19 0) h22) fun v23 h24 =>
 bindV (aLoadV Pg h24 5 v23) fun v25 h26 =>
 bindV (still (aBin Pg .eql 5 v25 (V.int .u8 2) true) h26) fun v27 h28 =>
 vcG v27 true (
 bindV (aLoadV Pg h28 38 v19) fun v39 h40 =>
 ACalls Pg 5 [x4,v39] h40 (aEnd (fun v41 h42 =>
 bindV (still (aBin Pg .eql 39 v41 (V.int .i64 0) true) h42) fun v43 h44 =>
 Meet (Gzk Q n x0 x4 x5 x6 v19 v27 v43 h44)) fun v h=>Q (.panic v) h)) (Meet (Gzk Q n x0 x4 x5 x6 v19 v27 hole h28))):=by kernel_rfl
theorem Jz4l_eq (Q:AEnd→AH→Prop) (n:Nat) (x4 x5 x8:V) (h:AH):Jz4l Q n x4 x5 x8 h=(
 bindV (still (aBin Pg .add 3 x8 (V.int .i64 1) true) h) fun v71 h72 =>
 Meet (Lz7f Q n x4 x5 v71 h72)):=by kernel_rfl
theorem Jz4k_eq (Q:AEnd→AH→Prop) (n:Nat) (x2:V) (h:AH):Jz4k Q n x2 h=(
 Q (.ret x2) h):=by kernel_rfl
theorem Gzr_eq (Q:AEnd→AH→Prop) (n:Nat) (x128 x129:V) (h:AH):Gzr Q n x128 x129 h=(
 bindV (aPick x128 x129 (V.bool false) h) fun v123 h124 =>
 Meet (Jz4k Q n v123 h124)):=by kernel_rfl
theorem Jz4j_eq (Q:AEnd→AH→Prop) (n:Nat) (x12 x15:V) (h:AH):Jz4j Q n x12 x15 h=(
 bindV (aLoadV Pg h 31 x12) fun v117 h118 =>
 bindV (aLoadV Pg h118 31 x15) fun v119 h120 =>
 bindV (still (aBin Pg .eql 31 v117 v119 false) h120) fun v121 h122 =>
 vcG v121 true (
 ACalls Pg 6 [] h122 (aEnd (fun v125 h126 =>
 Meet (Gzr Q n v121 v125 h126)) fun v h=>Q (.panic v) h)) (Meet (Gzr Q n v121 hole h122))):=by kernel_rfl
theorem Jz4i_eq (Q:AEnd→AH→Prop) (n:Nat) (x12 x15 x124:V) (h:AH):Jz4i Q n x12 x15 x124 h=(
 vcIf x124 (
 Q (.ret (V.bool false)) h) (
 Meet (Jz4j Q n x12 x15 h))):=by kernel_rfl
theorem Gzq_eq (Q:AEnd→AH→Prop) (n:Nat) (x12 x15 x118 x123:V) (h:AH):Gzq Q n x12 x15 x118 x123 h=(
 bindV (aPick x118 (V.bool true) x123 h) fun v115 h116 =>
 Meet (Jz4i Q n x12 x15 v115 h116)):=by kernel_rfl
theorem Gzp_eq (Q:AEnd→AH→Prop) (n:Nat) (x4 x11 x12 x15 x114 x116:V) (h:AH):Gzp Q n x4 x11 x12 x15 x114 x116 h=(
 bindV (aPick x114 (V.bool true) x116 h) fun v113 h114 =>
 vcG v113 false (
 ACalls Pg 7 [x4] h114 (aEnd (fun v127 h128 =>
 ACalls Pg 8 [v127] h128 (aEnd (fun v129 h130 =>
 bindV (still (aBin Pg .neq 42 v129 x11 false) h130) fun v131 h132 =>
 Meet (Gzq Q n x12 x15 v113 v131 h132)) fun v h=>Q (.panic v) h)) fun v h=>Q (.panic v) h)) (Meet (Gzq Q n x12 x15 v113 hole h114))):=by kernel_rfl
theorem Gzo_eq (Q:AEnd→AH→Prop) (n:Nat) (x4 x11 x12 x14 x15 x108 x112:V) (h:AH):Gzo Q n x4 x11 x12 x14 x15 x108 x112 h=(
 bindV (aPick x108 (V.bool true) x112 h) fun v111 h112 =>
 vcG v111 false (
 bindV (still (aBin Pg .neq 39 x14 (V.int .i64 5) true) h112) fun v133 h134 =>
 Meet (Gzp Q n x4 x11 x12 x15 v111 v133 h134)) (Meet (Gzp Q n x4 x11 x12 x15 v111 hole h112))):=by kernel_rfl
theorem Gzn_eq (Q:AEnd→AH→Prop) (n:Nat) (x4 x11 x12 x14 x15 x102 x106:V) (h:AH):Gzn Q n x4 x11 x12 x14 x15 x102 x106 h=(
 bindV (aPick x102 (V.bool true) x106 h) fun v109 h110 =>
 vcG v109 false (
 ACalls Pg 7 [x4] h110 (aEnd (fun v135 h136 =>
 ACalls Pg 12 [v135] h136 (aEnd (fun v137 h138 =>
 bindV (still (aBin Pg .gtr 3 v137 (V.int .i64 2) true) h138) fun v139 h140 =>
 Meet (Gzo Q n x4 x11 x12 x14 x15 v109 v139 h140)) fun v h=>Q (.panic v) h)) fun v h=>Q (.panic v) h)) (Meet (Gzo Q n x4 x11 x12 x14 x15 v109 hole h110))):=by kernel_rfl
theorem Gzm_eq (Q:AEnd→AH→Prop) (n:Nat) (x4 x11 x12 x14 x15 x98 x100:V) (h:AH):Gzm Q n x4 x11 x12 x14 x15 x98 x100 h=(
 bindV (aPick x98 (V.bool true) x100 h) fun v107 h108 =>
 vcG v107 false (
 bindV (aLoadV Pg h108 31 x12) fun v141 h142 =>
 ACalls Pg 11 [v141] h142 (aEnd (fun v143 h144 =>
 bindV (still (aBin Pg .geq 42 v143 x11 false) h144) fun v145 h146 =>
 Meet (Gzn Q n x4 x11 x12 x14 x15 v107 v145 h146)) fun v h=>Q (.panic v) h)) (Meet (Gzn Q n x4 x11 x12 x14 x15 v107 hole h108))):=by kernel_rfl
theorem Gzl_eq (Q:AEnd→AH→Prop) (n:Nat) (x4 x11 x12 x14 x15 x16 x94 x96:V) (h:AH):Gzl Q n x4 x11 x12 x14 x15 x16 x94 x96 h=(
 bindV (aPick x94 (V.bool true) x96 h) fun v105 h106 =>
 vcG v105 false (
 bindV (still (aBin Pg .neq 39 x16 (V.int .i64 0) true) h106) fun v147 h148 =>
 Meet (Gzm Q n x4 x11 x12 x14 x15 v105 v147 h148)) (Meet (Gzm Q n x4 x11 x12 x14 x15 v105 hole h106))):=by kernel_rfl
theorem Jz4h_eq (Q:AEnd→AH→Prop) (n:Nat) (x4 x9 x10:V) (h:AH):Jz4h Q n x4 x9 x10 h=(
 ACalls Pg 7 [x4] h (aEnd (fun v73 h74 =>
 ACalls Pg 8 [v73] h74 (aEnd (fun v75 h76 =>
 ∃ v77,ACalls Pg 9 [x4] h76 (pureE v77 h76)∧(
 (
 bindO (fstV (still (aFieldAddr Pg 38 x9 1) h76)) fun v78 =>
 bindO (fstV (aLoadV Pg h76 29 v78)) fun v79 =>
 (
 ACalls Pg 10 [v77,v79] h76 (aEnd (fun v80 h81=>(
 bindO (fstV (still (aExtract v80 0) h81)) fun v82 =>
 bindO (fstV (still (aExtract v80 1) h81)) fun v83 =>
 floB h76 h81 (floOp Pg (fun _=>.und) (.alloc 31)) fun v84 h85=>(
 bindV (aStoreV Pg h85 31 v84 v82) fun _ h87=>(
 bindV (aLoadV Pg h87 38 x9) fun v88 h89 =>
 ACalls Pg 5 [x4,v88] h89 (aEnd (fun v90 h91 =>
 ∃ v92,ACalls Pg 9 [x4] h91 (pureE v92 h91)∧(
 (
 bindO (fstV (still (aFieldAddr Pg 38 x9 1) h91)) fun v93 =>
 bindO (fstV (aLoadV Pg h91 29 v93)) fun v94 =>
 (
 ACalls Pg 10 [v92,v94] h91 (aEnd (fun v95 h96=>(
 bindO (fstV (still (aExtract v95 0) h96)) fun v97 =>
 bindO (fstV (still (aExtract v95 1) h96)) fun v98 =>
 floB h91 h96 (floOp Pg (fun _=>.und) (.alloc 31)) fun v99 h100=>(
 bindV (aStoreV Pg h100 31 v99 v97) fun _ h102=>(
 bindV (still (aBin Pg .neq 39 x10 (V.int .i64 5) true) h102) fun v103 h104 =>
 vcG v103 false (
 bindV (still (aBin Pg .neq 39 v83 (V.int .i64 0) true) h104) fun v149 h150 =>
 Meet (Gzl Q n x4 v75 v84 v90 v99 v98 v103 v149 h150)) (Meet (Gzl Q n x4 v75 v84 v90 v99 v98 v103 hole h104)))))) fun _ _=>False))))) fun v h=>Q (.panic v) h))))) fun _ _=>False))))) fun v h=>Q (.panic v) h)) fun v h=>Q (.panic v) h)):=by kernel_rfl
theorem Jz4g_eq (Q:AEnd→AH→Prop) (n:Nat) (x4 x5 x8:V) (h:AH):Jz4g Q n x4 x5 x8 h=(
 bindV (aBuiltin Pg h .len [22] [x5]) fun v53 h54 =>
 bindV (still (aBin Pg .rem 3 x8 v53 false) h54) fun v55 h56 =>
 bindV (still (aIndexAddr Pg 22 x5 v55) h56) fun v57 h58 =>
 bindV (aLoadV Pg h58 38 v57) fun v59 h60 =>
 bindV (aAlloc Pg h60 38) fun v61 h62 =>
 bindV (aStoreV Pg h62 38 v61 v59) fun _ h64 =>
 bindV (aLoadV Pg h64 38 v61) fun v65 h66 =>
 ACalls Pg 5 [x4,v65] h66 (aEnd (fun v67 h68 =>
 bindV (still (aBin Pg .eql 39 v67 (V.int .i64 0) true) h68) fun v69 h70 =>
 vcIf v69 (
 Meet (Jz4l Q n x4 x5 x8 h70)) (
 Meet (Jz4h Q n x4 v61 v67 h70))) fun v h=>Q (.panic v) h)):=by kernel_rfl
theorem Lz7f_eq (Q:AEnd→AH→Prop) (n:Nat) (x4 x5 x8:V) (h:AH):Lz7f Q (n + 1) x4 x5 x8 h=(
 bindV (still (aBin Pg .lss 3 x8 (V.int .i64 4000) true) h) fun v51 h52 =>
 vcIf v51 (
 Meet (Jz4g Q n x4 x5 x8 h52)) (
 Meet (Jz4m Q h52))):=by kernel_rfl
theorem Jz4f_eq (Q:AEnd→AH→Prop) (x4 x5:V) (h:AH):Jz4f Q x4 x5 h=(
 ∃ n,Meet (Lz7f Q n x4 x5 (V.int .i64 0) h)):=by kernel_rfl
theorem Jz4e_eq (Q:AEnd→AH→Prop) (x4 x5:V) (h:AH):Jz4e Q x4 x5 h=(
 bindV (aBuiltin Pg h .len [22] [x5]) fun v45 h46 =>
 bindV (still (aBin Pg .eql 3 v45 (V.int .i64 0) true) h46) fun v47 h48 =>
 vcIf v47 (
 ACalls Pg 6 [] h48 (aEnd (fun v49 h50 =>
 Q (.ret v49) h50) fun v h=>Q (.panic v) h)) (
 Meet (Jz4f Q x4 x5 h48))):=by kernel_rfl
theorem Jz4a_eq (Q:AEnd→AH→Prop) (n:Nat) (x0 x4 x5 x6 x30:V) (h:AH):Jz4a Q n x0 x4 x5 x6 x30 h=(
 vcIf x30 (
 Meet (Jz4b Q n x0 x4 x5 x6 h)) (
 Meet (Jz4e Q x4 x5 h))):=by kernel_rfl
theorem Gzj_eq (Q:AEnd→AH→Prop) (n:Nat) (x0 x4 x5 x6 x27 x29:V) (h:AH):Gzj Q n x0 x4 x5 x6 x27 x29 h=(
 bindV (aPick x27 x29 (V.bool false) h) fun v13 h14 =>
 Meet (Jz4a Q n x0 x4 x5 x6 v13 h14)):=by kernel_rfl
theorem Lz7e_eq (Q:AEnd→AH→Prop) (n:Nat) (x0 x4 x5 x6:V) (h:AH):Lz7e Q (n + 1) x0 x4 x5 x6 h=(
 bindV (aBuiltin Pg h .len [22] [x0]) fun v9 h10 =>
 bindV (still (aBin Pg .lss 3 x6 v9 false) h10) fun v11 h12 =>
 vcG v11 true (
 bindV (still (aBin Pg .lss 3 x6 (V.int .i64 20) true) h12) fun v151 h152 =>
 Meet (Gzj Q n x0 x4 x5 x6 v11 v151 h152)) (Meet (Gzj Q n x0 x4 x5 x6 v11 hole h12))):=by kernel_rfl
theorem Jz49_eq (Q:AEnd→AH→Prop) (x0 x4:V) (h:AH):Jz49 Q x0 x4 h=(
 ∃ n,Meet (Lz7e Q n x0 x4 (V.slc none 0) (V.int .i64 0) h)):=by kernel_rfl
theorem S3 (Q:AEnd→AH→Prop) (a0:V) (h:AH):vc Pg N3 B3 K3 (vcRet Pg R3 Q) (initEnv 0 [a0]) h=(
 ACalls Pg 4 [(V.int .i64 8)] h (aEnd (fun v1 h2 =>
 bindV (still (aExtract v1 0) h2) fun v3 h4 =>
 bindV (still (aExtract v1 1) h4) fun v5 h6 =>
 bindV (still (aBin Pg .eql 24 v5 (V.ptr none) true) h6) fun v7 h8 =>
 vcIf v7 (
 Q (.ret (V.bool false)) h8) (
 Meet (Jz49 Q a0 v5 h8))) fun v h=>Q (.panic v) h)):=by kernel_rfl
theorem C3 (Q:AEnd→AH→Prop) (a0:V) (h:AH) (c :
 ACalls Pg 4 [(V.int .i64 8)] h (aEnd (fun v1 h2 =>
 bindV (still (aExtract v1 0) h2) fun v3 h4 =>
 bindV (still (aExtract v1 1) h4) fun v5 h6 =>
 bindV (still (aBin Pg .eql 24 v5 (V.ptr none) true) h6) fun v7 h8 =>
 vcIf v7 (
 Q (.ret (V.bool false)) h8) (
 Meet (Jz49 Q a0 v5 h8))) fun v h=>Q (.panic v) h)):ACalls Pg 3 [a0] h Q :=
 acalls_of_vc okP Try.func3 (show Try.f3.body=some B3 from by kernel_rfl) K3 (by rw [← S3 Q a0 h] at c;exact c)
noncomputable def B4:Code:=(Try.f4.body).getD .skip
def R4:List ResultVar:=[.tmp 2,.tmp 3]
abbrev N4:Nat:=30
def K4:KT:=(.seq .leaf (.seq .leaf (.join (.seq .leaf (.two (.seq .leaf .leaf [2,3]) .leaf) [0,4,8]) (.join (.seq .leaf (.one (.loop (.join (.seq .leaf (.two .leaf .leaf) [0,4,5,10]) (.join (.one (.seq .leaf (.two (.seq .leaf .leaf [2,3]) .leaf) [0,4,5,21])) .leaf [0,4,5]) [0,4,5]) [0,4,5])) [0,4,5]) (.join (.seq .leaf (.two (.seq .leaf .leaf [2,3]) .leaf) [0,4,24]) (.seq .leaf .leaf [2,3]) [0,4]) [0,4]) [0,4]) [0,4]) [0])
def Jz5g (Q:AEnd→AH→Prop) (n:Nat) (x0 x4 x5:V) (h:AH):Prop:=vcAt Pg N4 B4 K4 [1,1,1,0,1,0,0,1,1] [n] (vcRet Pg R4 Q) [(0,x0),(4,x4),(5,x5)] h
def Jz5f (Q:AEnd→AH→Prop) (n:Nat) (x0 x4 x5:V) (h:AH):Prop:=vcAt Pg N4 B4 K4 [1,1,1,0,1,0,0,1] [n] (vcRet Pg R4 Q) [(0,x0),(4,x4),(5,x5)] h
def Jz5i (Q:AEnd→AH→Prop) (x0 x4:V) (h:AH):Prop:=vcAt Pg N4 B4 K4 [1,1,1,1,1] [] (vcRet Pg R4 Q) [(0,x0),(4,x4)] h
def Jz5h (Q:AEnd→AH→Prop) (x0 x4:V) (h:AH):Prop:=vcAt Pg N4 B4 K4 [1,1,1,1] [] (vcRet Pg R4 Q) [(0,x0),(4,x4)] h
def Lz7k (Q:AEnd→AH→Prop) (n:Nat) (x0 x4 x5:V) (h:AH):Prop:=loopAt Pg N4 B4 K4 [1,1,1,0,1,0] [] n (vcRet Pg R4 Q) [(0,x0),(4,x4),(5,x5)] h
def Jz5e (Q:AEnd→AH→Prop) (x0 x4:V) (h:AH):Prop:=vcAt Pg N4 B4 K4 [1,1,1] [] (vcRet Pg R4 Q) [(0,x0),(4,x4)] h
theorem Jz5g_eq (Q:AEnd→AH→Prop) (n:Nat) (x0 x4 x5:V) (h:AH):Jz5g Q n x0 x4 x5 h=(
 bindV (still (aBin Pg .add 3 x5 (V.int .i64 1) true) h) fun v19 h20 =>
 Meet (Lz7k Q n x0 x4 v19 h20)):=by kernel_rfl
theorem Jz5f_eq (Q:AEnd→AH→Prop) (n:Nat) (x0 x4 x5:V) (h:AH):Jz5f Q n x0 x4 x5 h=(
 bindV (still (aBin Pg .add 3 (V.int .i64 2) x5 true) h) fun v7 h8 =>
 ACalls Pg 17 [x5] h8 (aEnd (fun v9 h10 =>
 ACalls Pg 16 [v9] h10 (aEnd (fun v11 h12 =>
 ACalls Pg 15 [(V.int .u64 0),v11] h12 (aEnd (fun v13 h14 =>
 ACalls Pg 14 [x4,v7,v13] h14 (aEnd (fun v15 h16 =>
 bindV (still (aBin Pg .neq 39 v15 (V.int .i64 0) true) h16) fun v17 h18 =>
 vcIf v17 (
 Q (.ret (V.tup [(V.ptr none),(V.ptr none)])) h18) (
 Meet (Jz5g Q n x0 x4 x5 h18))) fun v h=>Q (.panic v) h)) fun v h=>Q (.panic v) h)) fun v h=>Q (.panic v) h)) fun v h=>Q (.panic v) h)):=by kernel_rfl
theorem Jz5i_eq (Q:AEnd→AH→Prop) (x0 x4:V) (h:AH):Jz5i Q x0 x4 h=(
 ACalls Pg 20 [] h (aEnd (fun v25 h26 =>
 ACalls Pg 19 [x4,v25,x0,(V.int .u32 1),(V.slc none 0),(V.int .u32 0),(V.int .u64 1)] h26 (aEnd (fun v27 h28 =>
 Q (.ret (V.tup [x4,v27])) h28) fun v h=>Q (.panic v) h)) fun v h=>Q (.panic v) h)):=by kernel_rfl
theorem Jz5h_eq (Q:AEnd→AH→Prop) (x0 x4:V) (h:AH):Jz5h Q x0 x4 h=(
 ACalls Pg 18 [x4] h (aEnd (fun v21 h22 =>
 bindV (still (aBin Pg .neq 39 v21 (V.int .i64 0) true) h22) fun v23 h24 =>
 vcIf v23 (
 Q (.ret (V.tup [(V.ptr none),(V.ptr none)])) h24) (
 Meet (Jz5i Q x0 x4 h24))) fun v h=>Q (.panic v) h)):=by kernel_rfl
theorem Lz7k_eq (Q:AEnd→AH→Prop) (n:Nat) (x0 x4 x5:V) (h:AH):Lz7k Q (n + 1) x0 x4 x5 h=(
 bindV (still (aBin Pg .lss 3 x5 (V.int .i64 7) true) h) fun v5 h6 =>
 vcIf v5 (
 Meet (Jz5f Q n x0 x4 x5 h6)) (
 Meet (Jz5h Q x0 x4 h6))):=by kernel_rfl
theorem Jz5e_eq (Q:AEnd→AH→Prop) (x0 x4:V) (h:AH):Jz5e Q x0 x4 h=(
 ∃ n,Meet (Lz7k Q n x0 x4 (V.int .i64 0) h)):=by kernel_rfl
theorem S4 (Q:AEnd→AH→Prop) (a0:V) (h:AH):vc Pg N4 B4 K4 (vcRet Pg R4 Q) (initEnv 0 [a0]) h=(
 ACalls Pg 13 [(V.int .i64 89)] h (aEnd (fun v1 h2 =>
 bindV (still (aBin Pg .eql 23 v1 (V.ptr none) true) h2) fun v3 h4 =>
 vcIf v3 (
 Q (.ret (V.tup [(V.ptr none),(V.ptr none)])) h4) (
 Meet (Jz5e Q a0 v1 h4))) fun v h=>Q (.panic v) h)):=by kernel_rfl
theorem C4 (Q:AEnd→AH→Prop) (a0:V) (h:AH) (c :
 ACalls Pg 13 [(V.int .i64 89)] h (aEnd (fun v1 h2 =>
 bindV (still (aBin Pg .eql 23 v1 (V.ptr none) true) h2) fun v3 h4 =>
 vcIf v3 (
 Q (.ret (V.tup [(V.ptr none),(V.ptr none)])) h4) (
 Meet (Jz5e Q a0 v1 h4))) fun v h=>Q (.panic v) h)):ACalls Pg 4 [a0] h Q :=
 acalls_of_vc okP Try.func4 (show Try.f4.body=some B4 from by kernel_rfl) K4 (by rw [← S4 Q a0 h] at c;exact c)
noncomputable def B6:Code:=(Try.f6.body).getD .skip
def R6:List ResultVar:=[.tmp 0]
abbrev N6:Nat:=51
def K6:KT:=(.seq .leaf (.seq .leaf (.join (.seq .leaf (.two (.seq .leaf .leaf [0]) .leaf) [2,13]) (.seq .leaf (.seq .leaf (.seq .leaf (.join (.reg [[2,6,7,32,34],[2,6,36,38],[2,40,43],[45,49]]) .leaf [0]) [2,3,5,6,7]) [2,3,4,5]) [2,3]) [2]) [2]) [])
def Jz6j (Q:AEnd→AH→Prop) (x0:V) (h:AH):Prop:=vcAt Pg N6 B6 K6 [1,1,1,1,1,1,1] [] (vcRet Pg R6 Q) [(0,x0)] h
def Gz1s (Q:AEnd→AH→Prop) (x45 x49:V) (h:AH):Prop:=segAt Pg N6 B6 K6 [1,1,1,1,1,1,0] 8 4 [] (vcRet Pg R6 Q) [(45,x45),(49,x49)] h
def Gz1r (Q:AEnd→AH→Prop) (x2 x40 x43:V) (h:AH):Prop:=segAt Pg N6 B6 K6 [1,1,1,1,1,1,0] 6 3 [] (vcRet Pg R6 Q) [(2,x2),(40,x40),(43,x43)] h
def Gz1q (Q:AEnd→AH→Prop) (x2 x6 x36 x38:V) (h:AH):Prop:=segAt Pg N6 B6 K6 [1,1,1,1,1,1,0] 4 2 [] (vcRet Pg R6 Q) [(2,x2),(6,x6),(36,x36),(38,x38)] h
def Gz1p (Q:AEnd→AH→Prop) (x2 x6 x7 x32 x34:V) (h:AH):Prop:=segAt Pg N6 B6 K6 [1,1,1,1,1,1,0] 2 1 [] (vcRet Pg R6 Q) [(2,x2),(6,x6),(7,x7),(32,x32),(34,x34)] h
def Jz6i (Q:AEnd→AH→Prop) (x2:V) (h:AH):Prop:=vcAt Pg N6 B6 K6 [1,1,1] [] (vcRet Pg R6 Q) [(2,x2)] h
theorem Jz6j_eq (Q:AEnd→AH→Prop) (x0:V) (h:AH):Jz6j Q x0 h=(
 Q (.ret x0) h):=by kernel_rfl
theorem Gz1s_eq (Q:AEnd→AH→Prop) (x45 x49:V) (h:AH):Gz1s Q x45 x49 h=(
 bindV (aPick x45 x49 (V.bool false) h) fun v49 h50 =>
 Meet (Jz6j Q v49 h50)):=by kernel_rfl
theorem Gz1r_eq (Q:AEnd→AH→Prop) (x2 x40 x43:V) (h:AH):Gz1r Q x2 x40 x43 h=(
 bindV (aPick x40 x43 (V.bool false) h) fun v47 h48 =>
 vcG v47 true (
 ACalls Pg 7 [x2] h48 (aEnd (fun v51 h52 =>
 ACalls Pg 8 [v51] h52 (aEnd (fun v53 h54 =>
 bindV (still (aBin Pg .gtr 42 v53 (V.int .u64 1) true) h54) fun v55 h56 =>
 Meet (Gz1s Q v47 v55 h56)) fun v h=>Q (.panic v) h)) fun v h=>Q (.panic v) h)) (Meet (Gz1s Q v47 hole h48))):=by kernel_rfl
theorem Gz1q_eq (Q:AEnd→AH→Prop) (x2 x6 x36 x38:V) (h:AH):Gz1q Q x2 x6 x36 x38 h=(
 bindV (aPick x36 x38 (V.bool false) h) fun v45 h46 =>
 vcG v45 true (
 bindV (still (aFieldAddr Pg 83 x6 1) h46) fun v57 h58 =>
 bindV (aLoadV Pg h58 32 v57) fun v59 h60 =>
 bindV (still (aBin Pg .eql 32 v59 (V.int .u32 4) true) h60) fun v61 h62 =>
 Meet (Gz1r Q x2 v45 v61 h62)) (Meet (Gz1r Q x2 v45 hole h46))):=by kernel_rfl
theorem Gz1p_eq (Q:AEnd→AH→Prop) (x2 x6 x7 x32 x34:V) (h:AH):Gz1p Q x2 x6 x7 x32 x34 h=(
 bindV (aPick x32 x34 (V.bool false) h) fun v43 h44 =>
 vcG v43 true (
 bindV (still (aBin Pg .eql 39 x7 (V.int .i64 0) true) h44) fun v63 h64 =>
 Meet (Gz1q Q x2 x6 v43 v63 h64)) (Meet (Gz1q Q x2 x6 v43 hole h44))):=by kernel_rfl
theorem Jz6i_eq (Q:AEnd→AH→Prop) (x2:V) (h:AH):Jz6i Q x2 h=(
 bindV (still (aBuild Pg 29 [(1,(V.int .u16 1))]) h) fun v9 h10 =>
 bindV (still (aBuild Pg 38 [(0,(V.int .u8 2)),(1,v9),(3,(V.int .u32 4))]) h10) fun v11 h12 =>
 ACalls Pg 5 [x2,v11] h12 (aEnd (fun v13 h14 =>
 ACalls Pg 9 [x2] h14 (aEnd (fun v15 h16 =>
 bindV (still (aBuild Pg 29 [(1,(V.int .u16 1))]) h16) fun v17 h18 =>
 ACalls Pg 10 [v15,v17] h18 (aEnd (fun v19 h20 =>
 bindV (still (aExtract v19 0) h20) fun v21 h22 =>
 bindV (still (aExtract v19 1) h22) fun v23 h24 =>
 bindV (aAlloc Pg h24 31) fun v25 h26 =>
 bindV (aStoreV Pg h26 31 v25 v21) fun _ h28 =>
 bindV (aLoadV Pg h28 31 v25) fun v29 h30 =>
 ACalls Pg 29 [(V.int .u16 1),v29] h30 (aEnd (fun v31 h32 =>
 bindV (still (aExtract v31 0) h32) fun v33 h34 =>
 bindV (still (aExtract v31 1) h34) fun v35 h36 =>
 bindV (aAlloc Pg h36 83) fun v37 h38 =>
 bindV (aStoreV Pg h38 83 v37 v33) fun _ h40 =>
 bindV (still (aBin Pg .eql 39 v13 (V.int .i64 0) true) h40) fun v41 h42 =>
 vcG v41 true (
 bindV (still (aBin Pg .eql 39 v23 (V.int .i64 0) true) h42) fun v65 h66 =>
 Meet (Gz1p Q x2 v37 v35 v41 v65 h66)) (Meet (Gz1p Q x2 v37 v35 v41 hole h42))) fun v h=>Q (.panic v) h)) fun v h=>Q (.panic v) h)) fun v h=>Q (.panic v) h)) fun v h=>Q (.panic v) h)):=by kernel_rfl
theorem S6 (Q:AEnd→AH→Prop) (h:AH):vc Pg N6 B6 K6 (vcRet Pg R6 Q) (initEnv 0 []) h=(
 ACalls Pg 4 [(V.int .i64 4)] h (aEnd (fun v1 h2 =>
 bindV (still (aExtract v1 0) h2) fun v3 h4 =>
 bindV (still (aExtract v1 1) h4) fun v5 h6 =>
 bindV (still (aBin Pg .eql 24 v5 (V.ptr none) true) h6) fun v7 h8 =>
 vcIf v7 (
 Q (.ret (V.bool false)) h8) (
 Meet (Jz6i Q v5 h8))) fun v h=>Q (.panic v) h)):=by kernel_rfl
theorem C6 (Q:AEnd→AH→Prop) (h:AH) (c :
 ACalls Pg 4 [(V.int .i64 4)] h (aEnd (fun v1 h2 =>
 bindV (still (aExtract v1 0) h2) fun v3 h4 =>
 bindV (still (aExtract v1 1) h4) fun v5 h6 =>
 bindV (still (aBin Pg .eql 24 v5 (V.ptr none) true) h6) fun v7 h8 =>
 vcIf v7 (
 Q (.ret (V.bool false)) h8) (
 Meet (Jz6i Q v5 h8))) fun v h=>Q (.panic v) h)):ACalls Pg 6 [] h Q :=
 acalls_of_vc okP Try.func6 (show Try.f6.body=some B6 from by kernel_rfl) K6 (by rw [← S6 Q h] at c;exact c)
noncomputable def B17:Code:=(Try.f17.body).getD .skip
def R17:List ResultVar:=[.cell 2 29]
abbrev N17:Nat:=12
def K17:KT:=(.seq .leaf (.join (.seq .leaf (.two (.seq .leaf .leaf [2]) .leaf) [0,2,4]) (.seq .leaf .leaf [2]) [0,2]) [0,2])
def Jz2s (Q:AEnd→AH→Prop) (x0 x2:V) (h:AH):Prop:=vcAt Pg N17 B17 K17 [1,1] [] (vcRet Pg R17 Q) [(0,x0),(2,x2)] h
theorem Jz2s_eq (Q:AEnd→AH→Prop) (x0 x2:V) (h:AH):Jz2s Q x0 x2 h=(
 bindV (still (aBin Pg .sub 3 x0 (V.int .i64 3) true) h) fun v11 h12 =>
 bindV (still (aConv Pg h12 3 27 v11) h12) fun v13 h14 =>
 bindV (still (aBuild Pg 29 [(0,(V.bool true)),(1,v13)]) h14) fun v15 h16 =>
 bindV (aStoreV Pg h16 29 x2 v15) fun _ h18 =>
 bindR (aRes Pg [(2,x2)] h18 R17) fun v=>Q (.ret v) h18):=by kernel_rfl
theorem S17 (Q:AEnd→AH→Prop) (a0:V) (h:AH):vc Pg N17 B17 K17 (vcRet Pg R17 Q) (initEnv 0 [a0]) h=(
 bindV (aAlloc Pg h 29) fun v1 h2 =>
 bindV (still (aBin Pg .lss 3 a0 (V.int .i64 3) true) h2) fun v3 h4 =>
 vcIf v3 (
 bindV (still (aConv Pg h4 3 27 a0) h4) fun v5 h6 =>
 bindV (still (aBuild Pg 29 [(1,v5)]) h6) fun v7 h8 =>
 bindV (aStoreV Pg h8 29 v1 v7) fun _ h10 =>
 bindR (aRes Pg [(2,v1)] h10 R17) fun v=>Q (.ret v) h10) (
 Meet (Jz2s Q a0 v1 h4))):=by kernel_rfl
theorem C17 (Q:AEnd→AH→Prop) (a0:V) (h:AH) (c :
 bindV (aAlloc Pg h 29) fun v1 h2 =>
 bindV (still (aBin Pg .lss 3 a0 (V.int .i64 3) true) h2) fun v3 h4 =>
 vcIf v3 (
 bindV (still (aConv Pg h4 3 27 a0) h4) fun v5 h6 =>
 bindV (still (aBuild Pg 29 [(1,v5)]) h6) fun v7 h8 =>
 bindV (aStoreV Pg h8 29 v1 v7) fun _ h10 =>
 bindR (aRes Pg [(2,v1)] h10 R17) fun v=>Q (.ret v) h10) (
 Meet (Jz2s Q a0 v1 h4))):ACalls Pg 17 [a0] h Q :=
 acalls_of_vc okP Try.func17 (show Try.f17.body=some B17 from by kernel_rfl) K17 (by rw [← S17 Q a0 h] at c;exact c)
noncomputable def B20:Code:=(Try.f20.body).getD .skip
def R20:List ResultVar:=[.cell 0 63]
abbrev N20:Nat:=2
def K20:KT:=(.seq .leaf (.seq .leaf .leaf [0]) [0])
theorem S20 (Q:AEnd→AH→Prop) (h:AH):vc Pg N20 B20 K20 (vcRet Pg R20 Q) (initEnv 0 []) h=(
 bindV (aAlloc Pg h 63) fun v1 h2 =>
 bindV (still (aBuild Pg 63 [(0,(V.int .i64 3)),(1,(V.int .i64 4)),(2,(V.int .i64 80)),(3,(V.int .u32 1000))]) h2) fun v3 h4 =>
 bindV (aStoreV Pg h4 63 v1 v3) fun _ h6 =>
 bindR (aRes Pg [(0,v1)] h6 R20) fun v=>Q (.ret v) h6):=by kernel_rfl
theorem C20 (Q:AEnd→AH→Prop) (h:AH) (c :
 bindV (aAlloc Pg h 63) fun v1 h2 =>
 bindV (still (aBuild Pg 63 [(0,(V.int .i64 3)),(1,(V.int .i64 4)),(2,(V.int .i64 80)),(3,(V.int .u32 1000))]) h2) fun v3 h4 =>
 bindV (aStoreV Pg h4 63 v1 v3) fun _ h6 =>
 bindR (aRes Pg [(0,v1)] h6 R20) fun v=>Q (.ret v) h6):ACalls Pg 20 [] h Q :=
 acalls_of_vc okP Try.func20 (show Try.f20.body=some B20 from by kernel_rfl) K20 (by rw [← S20 Q h] at c;exact c)
end Go.Proofs.Ytdfgfbammkojoaa.Sh
namespace Go.Proofs.Ytdfgfbammkojoaa.Sh
open Go Go.Ab Go.RowKit
open Go.Proofs.Ytdfgfbammkojoaa.Ru (Pg okP)
set_option maxRecDepth 10000
set_option maxHeartbeats 4000000
set_option linter.unusedSectionVars false
structure Dk.fine (d:Dk):Prop where
 fuse:d.fuse=0
 down:d.down=false
 fails:∀ i,d.fails i=false
theorem Dk.fine.op {d:Dk} (f:d.fine):d.op=(0,{ d with ops:=d.ops + 1 }):=by
 unfold Dk.op
 rw [if_neg (by rw [f.fuse];omega),if_neg (by rw [f.fails];decide)]
theorem Dk.fine.write {d:Dk} (f:d.fine) {b:Nat} (hb:b < d.n) (x:List UInt8):d.write (b:Int) x=(0,({ d with ops:=d.ops + 1 }:Dk).put b x 4):=by
 unfold Dk.write
 rw [if_neg (by rw [f.down];decide),if_neg (by omega),f.op,if_neg (by simp),show ((b:Nat):Int).toNat=b by omega]
theorem Dk.fine.put {d:Dk} (f:d.fine) (n b:Nat) (x:List UInt8) (i:Nat):(({ d with ops:=n }:Dk).put b x i).fine:=⟨f.fuse,f.down,f.fails⟩
theorem Dk.fine.sync {d:Dk} (f:d.fine):d.sync=(0,({ d with ops:=d.ops + 1 }:Dk).settle [] true):=by
 unfold Dk.sync
 rw [if_neg (by rw [f.down];decide),f.op,if_neg (by simp)]
def cfg20:Cfg:=⟨3,4,80,1000⟩
theorem configP (h:AH):ACalls Pg 20 [] h (pureE (cfV cfg20) h):=by
 refine acalls_forget rfl ?_
 show ACalls Pg 20 _ h (EndsO _ h)
 refine C20 _ _ ?_
 refine bindE (al_at (show zeroV Pg 63=some (cfV ⟨0,0,0,0⟩) by kernel_rfl) (by kernel_rfl)) fun h1 u1=>?_
 refine bindS_mk (show aBuild Pg 63 [(0,.int .i64 3),(1,.int .i64 4),(2,.int .i64 80),(3,.int .u32 1000)]=some (cfV cfg20) by kernel_rfl) ?_
 refine bindE (st_at (p:=[]) u1.at_ (by kernel_rfl) rfl (show hasShape Pg (cfV cfg20) 63=true by kernel_rfl) rfl) fun h2 u2=>?_
 have e1:=ld_mk (P:=Pg) (t:=63) (p:=[]) u2.at_ (by kernel_rfl) (w:=cfV cfg20) rfl
 simp only [aLoadV] at e1
 have e2:=(still_some e1).1
 refine bindR_mk (show aRes Pg _ _ R20=some [cfV cfg20] by simp [R20,aRes,Env.get,e2]) ?_
 exact ⟨rfl,((Keeps.new (T:=[]) u1).young u2 (Nat.le_refl _)).all⟩
def id20 (i:Nat):Bool × Nat:=if i < 3 then (false,i) else (true,i - 3)
theorem idP {i:Nat} (hi:i < 7) (h:AH):ACalls Pg 17 [.int .i64 i] h (pureE (pidV (id20 i).1 (id20 i).2) h):=by
 refine acalls_forget rfl ?_
 show ACalls Pg 17 _ h (EndsO _ h)
 refine C17 _ _ _ ?_
 refine bindE (al_at (show zeroV Pg 29=some (pidV false 0) by kernel_rfl) (shPid _ _)) fun h1 u1=>?_
 have q1:Keeps [] h h1:=Keeps.new u1
 have fin:∀ (u:Bool) (n:Nat),(u,n)=id20 i→bindV (aStoreV Pg h1 29 (.ptr (some ⟨h.next,.one 29,[]⟩)) (pidV u n)) (fun _ h10=>bindR (aRes Pg [(2,.ptr (some ⟨h.next,.one 29,[]⟩))] h10 R17) fun v=>EndsO (pidV (id20 i).1 (id20 i).2) h (.ret v) h10):=by
   intro u n e
   refine bindE (st_at (p:=[]) u1.at_ (by kernel_rfl) rfl (shPid u n) rfl) fun h2 u2=>?_
   have e1:=ld_mk (P:=Pg) (t:=29) (p:=[]) u2.at_ (by kernel_rfl) (w:=pidV u n) rfl
   simp only [aLoadV] at e1
   have e2:=(still_some e1).1
   refine bindR_mk (show aRes Pg _ _ R17=some [pidV u n] by simp [R17,aRes,Env.get,e2]) ?_
   exact ⟨by rw [← e];rfl,(q1.young u2 (Nat.le_refl _)).all⟩
 by_cases g:i < 3
 · refine fS_lss_t (by omega) ?_
   refine i_t ?_
   refine fS_cv_u16 (by decide +kernel) (by omega) (by omega) ?_
   refine bindS_mk (show aBuild Pg 29 [(1,.int .u16 (i:Int))]=some (pidV false i) by kernel_rfl) ?_
   exact fin false i (by unfold id20;rw [if_pos g])
 · refine fS_lss_f (by omega) ?_
   refine i_f ?_
   refine Meet.of (cast_p (Jz2s_eq ..) ?_)
   refine fS_sub_i64 (by omega) (by omega) ?_
   refine fS_cv_u16 (by decide +kernel) (by omega) (by omega) ?_
   rw [show (i:Int) - 3=((i - 3:Nat):Int) by omega]
   refine bindS_mk (show aBuild Pg 29 [(0,.bool true),(1,.int .u16 ((i - 3:Nat):Int))]=some (pidV true (i - 3)) by kernel_rfl) ?_
   exact fin true (i - 3) (by unfold id20;rw [if_neg g])
theorem id20_lt {i:Nat} (hi:i < 7):(id20 i).2 < 65536:=by unfold id20;split <;> (simp only;omega)
structure Dk.fresh (d:Dk):Prop where
 fine:d.fine
 n:d.n=89
 ops:d.ops≤100
 pend:d.pend=[]
section
variable {h0:AH} {pd fr:Nat}
theorem freshL {Q:AEnd→AH→Prop} (h4:4≤fr∧fr≤32) (c:∀ pb n d' h',Keeps TDs h0 h'→n.c.d=pd→d'.fresh→BsA h' pb n cfg20 (Ca.new d' (Lg.new pd 9 80 1 0 1) fr 3 4)→Q (.ret (.tup [dkP pd,bsP pb])) h'):∀ (j i m:Nat) (h:AH) (d:Dk),i + j=7→j < m→Keeps TDs h0 h→OwnAll h0→DkA h pd d→d.fine→d.n=89→d.ops≤i→d.pend.length≤4 * i →
   Lz7k Q m (.int .i64 fr) (dkP pd) (.int .i64 (i:Nat)) h
 | j,i,0,h,d,e,hm,_,_,_,_,_,_,_=>by omega
 | 0,i,m + 1,h,d,e,hm,q,own,k,f,hn,ho,hp=>by
   obtain rfl:i=7:=by omega
   rw [Lz7k_eq]
   refine fS_lss_f (by omega) ?_
   refine i_f ?_
   refine Meet.of (cast_p (Jz5h_eq ..) ?_)
   refine callG (dkSync k (by omega) (by omega)) fun h1 q1 k1=>?_
   rw [f.sync] at k1 ⊢
   refine fS_neq_f (show (0:Int)=0 from rfl) ?_
   refine i_f ?_
   refine Meet.of (cast_p (Jz5i_eq ..) ?_)
   refine callS (configP h1) ?_
   have k1':DkA h1 pd (({ d with ops:=d.ops + 1 }:Dk).settle [] true):=k1
   have qq:=q.trans q1
   refine callP (bsNew (fr:=fr) (ep:=1) (num:=0) (fin:=1) k1' (qq.own own) cfg20 h4 ⟨by decide,by decide⟩ ⟨by decide,by decide⟩ (by decide) (by show _≤d.n;rw [hn];decide) (by decide) (by decide) (by decide) (by decide)) fun pb h2 l2 q2 ⟨n,e1,k2⟩=>?_
   exact c pb n (({ d with ops:=d.ops + 1 }:Dk).settle [] true) h2 (qq.trans (q2.sub rfl)) e1 ⟨⟨f.fuse,f.down,f.fails⟩,hn,by show d.ops + 1≤100;omega,rfl⟩ k2
 | j + 1,i,m + 1,h,d,e,hm,q,own,k,f,hn,ho,hp=>by
   have hi:i < 7:=by omega
   rw [Lz7k_eq]
   refine fS_lss_t (by omega) ?_
   refine i_t ?_
   refine Meet.of (cast_p (Jz5f_eq ..) ?_)
   refine fS_add_i64 (by omega) (by omega) ?_
   refine callS (idP hi h) ?_
   refine callS (blankP (i:=id20 i) (id20_lt hi) h) ?_
   refine callS (sealP (blank_len _) (st:=0) (by decide) h) ?_
   rw [show (2:Int) + (i:Nat)=((2 + i:Nat):Int) by omega]
   refine callG (dkWrite k (by omega) (by omega) _ (sealB_len (blank_len _))) fun h1 q1 k1=>?_
   rw [f.write (by omega)] at k1 ⊢
   refine fS_neq_f (show (0:Int)=0 from rfl) ?_
   refine i_f ?_
   refine Meet.of (cast_p (Jz5g_eq ..) ?_)
   refine fS_add_i64 (by omega) (by omega) ?_
   exact Meet.of (freshL h4 c j (i + 1) m h1 _ (by omega) (by omega) (q.trans q1) own k1 (f.put _ _ _ _) hn (by show d.ops + 1≤i + 1;omega) (by
     show (wPend d.pend _ _ 4).length≤_
     rw [wPend_len];omega))
end
def FreshE (h:AH) (fr:Nat):AEnd→AH→Prop:=fun e h'=>∃ pd pb n d,e=.ret (.tup [dkP pd,bsP pb])∧Keeps TDs h h'∧n.c.d=pd∧d.fresh∧BsA h' pb n cfg20 (Ca.new d (Lg.new pd 9 80 1 0 1) fr 3 4)
theorem freshP {fr:Nat} (h4:4≤fr∧fr≤32) {h:AH} (own:OwnAll h):ACalls Pg 4 [.int .i64 fr] h (FreshE h fr):=by
 refine C4 _ _ _ ?_
 refine callP (dkNew (n:=89) (by decide) (by decide) h) fun pd h1 l1 q1 k1=>?_
 refine bindS_mk (show aBin Pg .eql 23 (.ptr (some _)) (.ptr none) true=some (.bool false) by kernel_rfl) ?_
 refine i_f ?_
 refine Meet.of (cast_p (Jz5e_eq ..) ?_)
 refine ⟨8,Meet.of ?_⟩
 exact freshL (h0:=h1) (pd:=pd) h4 (fun pb n d' h' a2 a3 a4 a5=>⟨pd,pb,n,d',rfl,(q1.sub rfl).trans a2,a3,a4,a5⟩) 7 0 8 h1 (Dk.new 89) rfl (by decide) (Keeps.refl _ _) (q1.own own) k1 ⟨rfl,rfl,fun _=>rfl⟩ rfl (by decide) (by decide)
end Go.Proofs.Ytdfgfbammkojoaa.Sh
namespace Go.Proofs.Ytdfgfbammkojoaa.Sh
open Go Go.Ab Go.RowKit
open Go.Proofs.Ytdfgfbammkojoaa.Rcn (Rc c1 imB)
set_option maxRecDepth 10000
theorem enc_bounds {r:Rc} (hm:r.may=true) (o:r.ok):1≤r.enc.length∧r.enc.length≤400:=by
 unfold Rc.may at hm
 simp only [Bool.and_eq_true,decide_eq_true_eq] at hm
 obtain ⟨⟨⟨⟨h1,h2⟩,h3⟩,h4⟩,h5⟩:=hm
 have hi:=o.im
 have ht:Rcn.trimTo r.im 224≤224:=by
   have:∀ (l:List Int) (n:Nat),Rcn.trimTo l n≤n:=by
     intro l n
     induction n with
     | zero=>exact Nat.le_refl _
     | succ n ih=>unfold Rcn.trimTo;split <;> omega
   exact this _ _
 unfold Rc.enc
 split
 · simp only [List.length_cons,List.length_append,Rcn.lay_len,Rcn.imB,List.length_map,List.length_take];omega
 · split
   · simp only [List.length_cons,List.length_append,Rcn.lay_len];omega
   · split
     · simp only [List.length_cons,List.length_append,Rcn.lay_len];omega
     · split
       · simp only [List.length_cons,Rcn.lay_len];omega
       · simp only [List.length_cons,List.length_append,Rcn.lay_len,List.length_nil];omega
structure Lg.full (l:Lg):Prop where
 size:l.size=80
 st:l.starts=[]
 num:l.num=l.sealed.length
 fin:l.fin=1 + 214 * l.sealed.length + l.opn.length
 opn:l.opn.length < 214
 cap:214 * l.sealed.length + l.opn.length≤17120
theorem Lg.spill_full:∀ (n:Nat) (l:Lg),l.size=80→l.starts=[]→l.num=l.sealed.length→l.fin=1 + 214 * l.sealed.length + l.opn.length→214 * l.sealed.length + l.opn.length≤17120→l.opn.length≤n→(Lg.spill n l).full
 | 0,l,h1,h2,h3,h4,h5,h6=>⟨h1,h2,h3,h4,by show l.opn.length < 214;omega,h5⟩
 | n + 1,l,h1,h2,h3,h4,h5,h6=>by
   unfold Lg.spill
   split
   · rename_i g
     refine Lg.spill_full n (l.seal 214) h1 h2 ?_ ?_ ?_ ?_
     · show l.num + 1=(l.sealed++[_]).length
       rw [h3];simp
     · show l.fin=1 + 214 * (l.sealed++[_]).length + (l.opn.drop 214).length
       simp only [List.length_append,List.length_singleton,List.length_drop];omega
     · show 214 * (l.sealed++[_]).length + (l.opn.drop 214).length≤_
       simp only [List.length_append,List.length_singleton,List.length_drop];omega
     · show (l.opn.drop 214).length≤n
       simp only [List.length_drop];omega
   · exact ⟨h1,h2,h3,h4,by omega,h5⟩
theorem append_full {l:Lg} (f:l.full) {s:List UInt8} (h1:1≤s.length) (h2:s.length≤400) :
   (l.append s=((0,5),l)∧l.free≤2)∨((l.append s).1.2=0∧(l.append s).2.full∧(l.append s).2.fin=l.fin + (s.length + 6)∧(l.append s).2.d=l.d):=by
 have hf:=frame_len h1 h2
 have o1:=f.fin
 have o2:=f.opn
 have o3:=f.num
 unfold Lg.append
 rw [if_neg (by omega)]
 by_cases g:l.size < l.need (frameF s).length
 · rw [if_pos g]
   refine .inl ⟨rfl,?_⟩
   unfold Lg.need at g
   rw [f.size,f.st,hf] at g
   unfold Lg.free
   rw [f.size,f.st]
   simp only [List.length_nil] at g ⊢
   split <;> omega
 · rw [if_neg g]
   unfold Lg.need at g
   rw [f.size,f.st,hf] at g
   simp only [List.length_nil] at g
   have sp:=Lg.spill_ok (l.opn.length + (frameF s).length) { l with opn:=l.opn++frameF s,fin:=l.fin + (frameF s).length } (by simp)
   refine .inr ⟨rfl,?_,?_,?_⟩
   · show (Lg.spill _ _).full
     refine Lg.spill_full _ _ f.size f.st f.num ?_ ?_ ?_
     · show l.fin + (frameF s).length=1 + 214 * l.sealed.length + (l.opn++frameF s).length
       rw [List.length_append];omega
     · show 214 * l.sealed.length + (l.opn++frameF s).length≤17120
       rw [List.length_append,hf];omega
     · show (l.opn++frameF s).length≤_
       rw [List.length_append];exact Nat.le_refl _
   · show (Lg.spill _ _).fin=_
     rw [sp.2.1]
     show l.fin + (frameF s).length=_
     rw [hf]
   · exact sp.2.2.2.2
structure Inv (c:Ca):Prop where
 ok:c.ok
 fine:c.dk.fine
 seen:SmOk c.dk.seen
 dn:c.dk.n=89
 pg:c.pages=3
 un:c.undo=4
 lg:c.lg.full
 ids:∀ f∈c.fr,f.id.1=false
 page:∀ f∈c.fr,dataOk f.id.2 f.p
structure Bud (k:Nat) (c:Ca):Prop where
 ops:c.dk.ops≤100 + k
 pins:∀ x∈c.ck.pins,x≤k
theorem Bud.mono {k k':Nat} {c:Ca} (b:Bud k c) (h:k≤k'):Bud k' c:=⟨by have:=b.ops;omega,fun x hx=>by have:=b.pins x hx;omega⟩
theorem Inv.fit {c:Ca} (i:Inv c) {k:Nat} (b:Bud k c) (hk:k≤100000):c.fit:=by
 have h1:=i.lg.num
 have h2:=i.lg.fin
 have h3:=i.lg.opn
 have h4:=i.lg.cap
 have h5:=b.ops
 exact ⟨by omega,fun x hx=>by have:=b.pins x hx;omega,by omega,by omega,by omega,h3⟩
theorem Inv.room {c:Ca} (i:Inv c):c.fr.length≤3:=by
 rcases Nat.lt_or_ge 3 c.fr.length with h | h
 · exfalso
   have o:=i.ok
   have key:∀ (a b:Nat) (ha:a < c.fr.length) (hb:b < c.fr.length),(c.fr[a]).id.2=(c.fr[b]).id.2→a=b:=by
     intro a b ha hb e
     have e1:=i.ids _ (List.getElem_mem ha)
     have e2:=i.ids _ (List.getElem_mem hb)
     have e3:(c.fr[a]).id=(c.fr[b]).id:=Prod.ext (e1.trans e2.symm) e
     have k1:=(o.at_ (c.fr[a]).id a).2 (by rw [List.getElem?_eq_getElem ha];rfl)
     have k2:=(o.at_ (c.fr[a]).id b).2 (by rw [List.getElem?_eq_getElem hb,e3];rfl)
     rw [k1] at k2;cases k2;rfl
   have lt:∀ (a:Nat) (ha:a < c.fr.length),(c.fr[a]).id.2 < 3:=by
     intro a ha
     have h1:=o.is _ (List.getElem_mem ha)
     have h2:=i.ids _ (List.getElem_mem ha)
     unfold Ca.isF at h1
     rw [h2,if_neg (by simp),i.pg] at h1
     exact h1
   have d01:=key 0 1 (by omega) (by omega)
   have d02:=key 0 2 (by omega) (by omega)
   have d03:=key 0 3 (by omega) (by omega)
   have d12:=key 1 2 (by omega) (by omega)
   have d13:=key 1 3 (by omega) (by omega)
   have d23:=key 2 3 (by omega) (by omega)
   have l0:=lt 0 (by omega)
   have l1:=lt 1 (by omega)
   have l2:=lt 2 (by omega)
   have l3:=lt 3 (by omega)
   omega
 · exact h
theorem Inv.nf {c:Ca} (i:Inv c) (k:Pid):kget c.at_ k=none→c.fr.length < c.most:=fun _=>by
 have:=i.room
 have:=i.ok.most
 omega
theorem load_ok {no:Nat} (hno:no < 65536) (b:List UInt8):dataOk no (loadP (rtD no) (blD no) b).1:=by
 unfold loadP
 split
 · rename_i h
   have:=h.2
   unfold rtD at this
   exact of_decide_eq_true this
 · exact putD_ok hno zOk
theorem set_pins {l:List Nat} {j v k:Nat} (h:∀ x∈l,x≤k) (hv:v≤k):∀ x∈l.set j v,x≤k:=fun x hx=>by
 rcases List.mem_or_eq_of_mem_set hx with q | q
 · exact h x q
 · omega
theorem getD_le {l:List Nat} {j k:Nat} (h:∀ x∈l,x≤k):l.getD j 0≤k:=by
 rw [List.getD_eq_getElem?_getD]
 cases hq:l[j]? with
 | none=>simp
 | some x=>exact h x (List.mem_of_getElem? hq)
theorem Bud.hold {k:Nat} {c:Ca} (b:Bud k c) (j:Nat):Bud (k + 1) (c.hold j) :=
 ⟨by have:=b.ops;show c.dk.ops≤_;omega,set_pins (fun x hx=>by have:=b.pins x hx;omega) (by have:=getD_le b.pins (j:=j);omega)⟩
theorem Inv.hold {c:Ca} (i:Inv c) (j:Nat):Inv (c.hold j):=⟨Ca.hold_ok i.ok j,i.fine,i.seen,i.dn,i.pg,i.un,i.lg,i.ids,i.page⟩
def Ca.sees (c:Ca) (no:Nat) (x:List UInt8) (dirty:Bool):Prop:=∃ j,kget c.at_ (false,no)=some j∧(c.frame j).p=x∧(c.frame j).dirty=dirty
theorem fetchD_ok {c:Ca} (i:Inv c) {k:Nat} (b:Bud k c) {no:Nat} (hno:no < 3) :
   (c.fetchD no).1.2=0∧dataOk no (c.fetchD no).1.1∧Inv (c.fetchD no).2∧Bud (k + 1) (c.fetchD no).2∧(c.fetchD no).2.holds (false,no) (c.fetchD no).1.1∧(c.fetchD no).2.lg=c.lg ∧
     (∀ m x d,c.sees m x d→(c.fetchD no).2.sees m x d)∧(∀ x d,c.sees no x d→(c.fetchD no).1.1=x):=by
 have hi:c.isF (false,no):=by unfold Ca.isF;rw [if_neg (by simp),i.pg];exact hno
 have hnf:=i.nf (false,no)
 have e0:(c.fetchD no).1.2=0→(c.fetchD no).2.holds (false,no) (c.fetchD no).1.1:=fetchN_holds i.ok hnf
 have elg:(c.fetchD no).2.lg=c.lg:=fetchN_lg _ _ _ _
 revert e0 elg
 unfold Ca.fetchD Ca.fetchN
 rw [if_pos hi]
 cases hk:kget c.at_ (false,no) with
 | some j =>
   intro e0 elg
   have hj:=i.ok.lt hk
   have hf:c.frame j=c.fr[j]:=by unfold Ca.frame;rw [List.getElem?_eq_getElem hj];rfl
   have hid:(c.fr[j]).id=(false,no):=by
     have:=(i.ok.at_ (false,no) j).1 hk
     rw [List.getElem?_eq_getElem hj] at this
     simpa using this
   refine ⟨rfl,?_,i.hold j,b.hold j,e0 rfl,elg,fun m x d q=>q,fun x d q=>?_⟩
   · have:=i.page _ (List.getElem_mem hj)
     rw [hid] at this
     show dataOk no (c.frame j).p
     rw [hf];exact this
   · obtain ⟨j',q1,q2,q3⟩:=q
     rw [hk] at q1;cases q1
     exact q2
 | none =>
   intro e0 elg
   have hpl:c.place (false,no)=((2 + no:Nat):Int):=by unfold Ca.place;rw [if_neg (by simp)]
   have hrd:c.dk.read (c.place (false,no))=(blkAt c.dk.seen (2 + no),0,{ c.dk with ops:=c.dk.ops + 1 }):=by
     rw [hpl]
     unfold Dk.read
     rw [if_neg (by rw [i.fine.down];decide),if_neg (by rw [i.dn];omega),i.fine.op,if_neg (by simp),show (((2 + no:Nat)):Int).toNat=2 + no by omega]
   rw [hrd] at e0 elg ⊢
   simp only [if_pos] at e0 elg ⊢
   have hl:=load_ok (no:=no) (by omega) (blkAt c.dk.seen (2 + no))
   have hmem:∀ f∈c.fr++[(⟨(false,no),(loadP (rtD no) (blD no) (blkAt c.dk.seen (2 + no))).1,false,0,(loadP (rtD no) (blD no) (blkAt c.dk.seen (2 + no))).2⟩:Fr)],f∈c.fr∨(f.id=(false,no)∧f.p=(loadP (rtD no) (blD no) (blkAt c.dk.seen (2 + no))).1):=fun f hf=>by
     rcases List.mem_append.1 hf with q | q
     · exact .inl q
     · rw [List.mem_singleton] at q;subst q;exact .inr ⟨rfl,rfl⟩
   have hx:(loadP (rtD no) (blD no) (blkAt c.dk.seen (2 + no))).1.length=224:=by
     exact loadP_len (blkAt_len i.seen _) (putD_len _)
   have fine':({ c.dk with ops:=c.dk.ops + 1 }:Dk).fine:=⟨i.fine.fuse,i.fine.down,i.fine.fails⟩
   have okm:(c.more { c.dk with ops:=c.dk.ops + 1 } (false,no) (loadP (rtD no) (blD no) (blkAt c.dk.seen (2 + no)))).ok:=Ca.more_ok i.ok rfl hi (by show no < 65536;omega) hk (hnf hk) hx
   refine ⟨trivial,hl,⟨okm,fine',i.seen,i.dn,i.pg,i.un,i.lg,fun f hf=>?_,fun f hf=>?_⟩,⟨?_,?_⟩,e0 trivial,rfl,fun m x d q=>?_,fun x d q=>?_⟩
   · rcases hmem f hf with q | ⟨q,_⟩
     · exact i.ids f q
     · rw [q]
   · rcases hmem f hf with q | ⟨q1,q2⟩
     · exact i.page f q
     · rw [q1,q2];exact hl
   · show c.dk.ops + 1≤_
     have:=b.ops;omega
   · intro x hx'
     have:x∈c.ck.pins.set c.fr.length (c.ck.pins.getD c.fr.length 0 + 1):=hx'
     exact set_pins (fun x hx=>by have:=b.pins x hx;omega) (by have:=getD_le b.pins (j:=c.fr.length);omega) x this
   · obtain ⟨j,q1,q2,q3⟩:=q
     have hj:=i.ok.lt q1
     have hne:(false,no)≠(false,m):=fun e=>by rw [← e,hk] at q1;cases q1
     have hfr:(c.more { c.dk with ops:=c.dk.ops + 1 } (false,no) (loadP (rtD no) (blD no) (blkAt c.dk.seen (2 + no)))).frame j=c.frame j:=by
       show ((c.fr++[_])[j]?).getD zFr=_
       rw [List.getElem?_append_left hj];rfl
     refine ⟨j,?_,by rw [hfr];exact q2,by rw [hfr];exact q3⟩
     show kget (kset c.at_ (false,no) c.fr.length) (false,m)=some j
     rw [kget_set,if_neg hne];exact q1
   · obtain ⟨j,q1,_⟩:=q
     rw [hk] at q1;cases q1
structure GoodR (r:Rc):Prop where
 ok:r.ok
 may:r.may=true
 k:r.k=2
 no:r.no.toNat < 3
 dl:∀ b,(deltaF b r.dl).1=true
theorem pins_unhold {c:Ca} {k:Nat} (b:Bud k c) (i:Pid):Bud k (c.unhold i):=by
 unfold Ca.unhold
 split
 · rename_i j _
   exact ⟨b.ops,set_pins b.pins (by have:=getD_le b.pins (j:=j);omega)⟩
 · exact b
theorem unhold_same (c:Ca) (i:Pid):(c.unhold i).fr=c.fr∧(c.unhold i).at_=c.at_∧(c.unhold i).lg=c.lg∧(c.unhold i).dk=c.dk∧(c.unhold i).pages=c.pages∧(c.unhold i).undo=c.undo∧(c.unhold i).most=c.most∧(c.unhold i).ck.n=c.ck.n:=by
 unfold Ca.unhold
 split
 · exact ⟨rfl,rfl,rfl,rfl,rfl,rfl,rfl,by simp [Ck.n]⟩
 · exact ⟨rfl,rfl,rfl,rfl,rfl,rfl,rfl,rfl⟩
theorem Inv.unhold {c:Ca} (i:Inv c) (k:Pid):Inv (c.unhold k):=by
 obtain ⟨h1,h2,h3,h4,h5,h6,h7,h8⟩:=unhold_same c k
 exact ⟨i.ok.same h5 h6 h7 h1 h2 h8 (by rw [h4]),by rw [h4];exact i.fine,by rw [h4];exact i.seen,by rw [h4];exact i.dn,by rw [h5];exact i.pg,by rw [h6];exact i.un,by rw [h3];exact i.lg,by rw [h1];exact i.ids,by rw [h1];exact i.page⟩
theorem sees_unhold {c:Ca} {k:Pid} {m:Nat} {x:List UInt8} {d:Bool} (h:c.sees m x d):(c.unhold k).sees m x d:=by
 obtain ⟨h1,h2,_⟩:=unhold_same c k
 obtain ⟨j,q1,q2,q3⟩:=h
 have hf:(c.unhold k).frame j=c.frame j:=by unfold Ca.frame;rw [h1]
 exact ⟨j,by rw [h2];exact q1,by rw [hf];exact q2,by rw [hf];exact q3⟩
theorem changeD_ok {c:Ca} (i:Inv c) {k:Nat} (b:Bud k c) {r:Rc} (g:GoodR r) :
   ((c.changeD r).1=5∧Inv (c.changeD r).2∧Bud (k + 1) (c.changeD r).2∧(c.changeD r).2.lg=c.lg∧c.lg.free≤2∧(∀ m x d,c.sees m x d→(c.changeD r).2.sees m x d) ∧
     ∀ x,c.sees r.no.toNat x true→(c.lg.append r.enc).1.2≠0) ∨
   ((c.changeD r).1=0∧Inv (c.changeD r).2∧Bud (k + 1) (c.changeD r).2∧c.lg.fin + 7≤(c.changeD r).2.lg.fin∧(∃ x,(c.changeD r).2.sees r.no.toNat x true∧getW x 7 8=c.lg.fin∧getW x 15 4=r.ts.toNat)∧(∀ m x d,m≠r.no.toNat→c.sees m x d→(c.changeD r).2.sees m x d) ∧
     ∀ x,c.sees r.no.toNat x true→(c.lg.append r.enc).1.2=0):=by
 obtain ⟨f1,f2,f3,f4,f5,f6,f7,f8⟩:=fetchD_ok i b g.no
 have hno2:r.no.toNat < 65536:=by have:=g.no;omega
 unfold Ca.changeD
 rw [if_pos g.may,if_pos f1]
 generalize hft:c.fetchD r.no.toNat=ft at *
 obtain ⟨⟨x,e⟩,c2⟩:=ft
 simp only at f1 f2 f3 f4 f5 f6 f7 f8 ⊢
 have hx:x.length=224:=by
   obtain ⟨j,y1,y2,y3,y4⟩:=f5
   rw [← y4]
   have:=f3.ok.fr (c2.frame j) (by
     unfold Ca.frame
     rw [List.getElem?_eq_getElem y2]
     exact List.getElem_mem y2)
   exact this.p
 have hon:Rc.onF r x=x:=by unfold Rc.onF;rw [if_neg (by rw [g.k];decide)]
 have hfin:c2.lg.fin < 18446744073709551616:=by
   have h1:=f3.lg.fin
   have h2:=f3.lg.cap
   omega
 -- the page behind the change
 have dok:(dataF r c2.lg.fin (gotD x) (deltaF (gotD x).body r.dl).2).ok:=by
   unfold dataF
   rw [if_pos g.k]
   refine ⟨hfin,by show r.ts.toNat < _;have:=g.ok.ts;omega,by show r.pp.toNat < _;have:=g.ok.pp;omega,?_⟩
   exact dGo_len _ _ _ _ _ (gotD_ok hx).body
 have hrd:redoF r.no.toNat x c2.lg.fin r=some (putD r.no.toNat (dataF r c2.lg.fin (gotD x) (deltaF (gotD x).body r.dl).2)):=by
   unfold redoF
   rw [hon,if_neg (fun q=>q f2),if_neg (fun q=>by rw [g.dl] at q;cases q.2)]
 rw [hrd]
 simp only
 generalize hpx:putD r.no.toNat (dataF r c2.lg.fin (gotD x) (deltaF (gotD x).body r.dl).2)=x'
 have hx':x'.length=224:=by rw [← hpx];exact putD_len _
 have dx:dataOk r.no.toNat x':=by rw [← hpx];exact putD_ok hno2 dok
 have lx:getW x' 7 8=c.lg.fin:=by
   rw [← hpx,putD_lsn dok,← f6]
   unfold dataF
   rw [if_pos g.k]
 have tx:getW x' 15 4=r.ts.toNat:=by
   have:=congrArg Dt.ts (gotD_put (no:=r.no.toNat) dok)
   rw [hpx] at this
   unfold gotD at this
   simp only at this
   rw [this]
   unfold dataF
   rw [if_pos g.k]
 -- the record that is laid
 have lo:(c2.laid r.no.toNat r x').ok∧(c2.laid r.no.toNat r x').may=true:=by
   unfold Ca.laid
   split
   · exact ⟨imgR_ok hno2 hx',imgR_may _ _⟩
   · exact ⟨g.ok,g.may⟩
 obtain ⟨e1,e2⟩:=enc_bounds lo.2 lo.1
 have dirty:∀ x,c.sees r.no.toNat x true→c2.laid r.no.toNat r x'=r:=fun y q=>by
   obtain ⟨j,q1,q2,q3⟩:=f7 _ _ _ q
   have:c2.clean (false,r.no.toNat)=false:=by unfold Ca.clean;rw [q1];simp [q3]
   unfold Ca.laid
   rw [this];rfl
 rcases append_full f3.lg e1 e2 with ⟨ha,hb⟩ | ⟨ha,hb,hc,hd⟩
 · rw [ha]
   simp only
   rw [if_neg (show ¬ (5:Int)=0 by decide)]
   refine .inl ⟨rfl,f3.unhold _,pins_unhold f4 _,by rw [(unhold_same _ _).2.2.1];exact f6,by rw [← f6];exact hb,fun m y d q=>sees_unhold (f7 m y d q),fun y q=>?_⟩
   have:=dirty y q
   rw [this,f6] at ha
   rw [ha];exact (show ¬ (5:Int)=0 by decide)
 · rw [if_pos ha]
   obtain ⟨j,y1,y2,y3,y4⟩:=f5
   -- the page is put
   have epp:({ c2 with lg:=(c2.lg.append (c2.laid r.no.toNat r x').enc).2 }:Ca).putP (false,r.no.toNat) x'={ c2 with lg:=(c2.lg.append (c2.laid r.no.toNat r x').enc).2,fr:=c2.fr.set j ((c2.frame j).put x') }:=by
     unfold Ca.putP
     rw [show kget ({ c2 with lg:=(c2.lg.append (c2.laid r.no.toNat r x').enc).2 }:Ca).at_ (false,r.no.toNat)=some j from y1];rfl
   rw [epp]
   have hfj:c2.frame j=c2.fr[j]:=by unfold Ca.frame;rw [List.getElem?_eq_getElem y2];rfl
   have hid:(c2.frame j).id=(false,r.no.toNat):=by
     have:=(f3.ok.at_ _ j).1 y1
     rw [List.getElem?_eq_getElem y2] at this
     rw [hfj];simpa using this
   have hmem:∀ f∈c2.fr.set j ((c2.frame j).put x'),f∈c2.fr∨f=(c2.frame j).put x':=fun f hf=>by
     rcases List.mem_or_eq_of_mem_set hf with q | q
     · exact .inl q
     · exact .inr q
   have hmap:∀ a,(c2.fr.set j ((c2.frame j).put x'))[a]?.map Fr.id=c2.fr[a]?.map Fr.id:=fun a=>by
     rw [List.getElem?_set]
     by_cases e:j=a
     · subst e
       rw [if_pos rfl,if_pos y2,List.getElem?_eq_getElem y2,← hfj];rfl
     · rw [if_neg e]
   have okp:({ c2 with lg:=(c2.lg.append (c2.laid r.no.toNat r x').enc).2,fr:=c2.fr.set j ((c2.frame j).put x') }:Ca).ok:=by
     obtain ⟨a1,a2,a3,a4,a5,a6,a7,a8,a9⟩:=f3.ok
     refine ⟨a1,a2,a3,by simpa using a4,fun f hf=>?_,fun f hf=>?_,fun a b=>?_,a8,a9⟩
     · rcases hmem f hf with q | rfl
       · exact a5 f q
       · have hok:=a5 (c2.frame j) (by rw [hfj];exact List.getElem_mem y2)
         exact ⟨hok.id,hx',by show (if (c2.frame j).dirty then _ else _) < _;split;exact hok.first;exact getW_lt (by decide)⟩
     · rcases hmem f hf with q | rfl
       · exact a6 f q
       · exact a6 (c2.frame j) (by rw [hfj];exact List.getElem_mem y2)
     · show _↔(c2.fr.set j ((c2.frame j).put x'))[b]?.map Fr.id=some a
       rw [hmap];exact a7 a b
   have ip:Inv ({ c2 with lg:=(c2.lg.append (c2.laid r.no.toNat r x').enc).2,fr:=c2.fr.set j ((c2.frame j).put x') }:Ca):=by
     refine ⟨okp,f3.fine,f3.seen,f3.dn,f3.pg,f3.un,hb,fun f hf=>?_,fun f hf=>?_⟩
     · rcases hmem f hf with q | rfl
       · exact f3.ids f q
       · show (c2.frame j).id.1=false
         rw [hid]
     · rcases hmem f hf with q | rfl
       · exact f3.page f q
       · show dataOk (c2.frame j).id.2 x'
         rw [hid];exact dx
   have bp:Bud (k + 1) ({ c2 with lg:=(c2.lg.append (c2.laid r.no.toNat r x').enc).2,fr:=c2.fr.set j ((c2.frame j).put x') }:Ca):=⟨f4.ops,f4.pins⟩
   refine .inr ⟨rfl,ip.unhold _,pins_unhold bp _,?_,⟨x',sees_unhold ⟨j,y1,?_,?_⟩,lx,tx⟩,fun m y d hm q=>sees_unhold ?_,fun y q=>?_⟩
   · rw [(unhold_same _ _).2.2.1]
     show _≤(c2.lg.append (c2.laid r.no.toNat r x').enc).2.fin
     rw [hc,f6];omega
   · show ((c2.fr.set j _)[j]?.getD zFr).p=x'
     rw [List.getElem?_set,if_pos rfl,if_pos y2];rfl
   · show ((c2.fr.set j _)[j]?.getD zFr).dirty=true
     rw [List.getElem?_set,if_pos rfl,if_pos y2];rfl
   · obtain ⟨j',q1,q2,q3⟩:=f7 m y d q
     have hne:j≠j':=fun e=>by
       subst e
       have h1:=(f3.ok.at_ _ j).1 y1
       have h2:=(f3.ok.at_ _ j).1 q1
       rw [h1] at h2
       simp only [Option.some.injEq,Prod.mk.injEq,true_and] at h2
       exact hm h2.symm
     have hf:({ c2 with lg:=(c2.lg.append (c2.laid r.no.toNat r x').enc).2,fr:=c2.fr.set j ((c2.frame j).put x') }:Ca).frame j'=c2.frame j':=by
       show ((c2.fr.set j _)[j']?).getD zFr=_
       rw [List.getElem?_set,if_neg hne];rfl
     exact ⟨j',q1,by rw [hf];exact q2,by rw [hf];exact q3⟩
   · have:=dirty y q
     rw [this,f6] at ha
     exact ha
end Go.Proofs.Ytdfgfbammkojoaa.Sh
namespace Go.Proofs.Ytdfgfbammkojoaa.Sh
open Go Go.Ab Go.RowKit
open Go.Proofs.Ytdfgfbammkojoaa.Rcn (Rc c1 imB)
set_option maxRecDepth 10000
def Ca.told (c:Ca) (no:Nat):Prop:=∃ x,c.sees no x true∧getW x 7 8 < c.lg.fin
theorem changeD_any {c:Ca} (i:Inv c) {k:Nat} (b:Bud k c) {r:Rc} (o:r.ok) (hk:r.k=2) :
   Inv (c.changeD r).2∧Bud (k + 1) (c.changeD r).2∧(∀ m,c.told m→(c.changeD r).2.told m)∧((c.changeD r).1=0→GoodR r∧(c.changeD r).2.told r.no.toNat):=by
 by_cases hm:r.may=true
 case neg =>
   have e:c.changeD r=(1,c):=by unfold Ca.changeD;rw [if_neg hm]
   rw [e]
   exact ⟨i,b.mono (by omega),fun m q=>q,fun q=>absurd q (show ¬ (1:Int)=0 by decide)⟩
 by_cases hn:r.no.toNat < 3
 case neg =>
   have hf:c.fetchD r.no.toNat=((zer 224,1),c):=by
     unfold Ca.fetchD Ca.fetchN
     rw [if_neg]
     unfold Ca.isF
     rw [if_neg (by simp),i.pg];exact hn
   have e:c.changeD r=(1,c):=by unfold Ca.changeD;rw [if_pos hm,hf,if_neg (show ¬ (1:Int)=0 by decide)]
   rw [e]
   exact ⟨i,b.mono (by omega),fun m q=>q,fun q=>absurd q (show ¬ (1:Int)=0 by decide)⟩
 obtain ⟨f1,f2,f3,f4,f5,f6,f7,f8⟩:=fetchD_ok i b hn
 by_cases hd:(deltaF (gotD (c.fetchD r.no.toNat).1.1).body r.dl).1=true
 · have g:GoodR r:=⟨o,hm,hk,hn,fun b'=>by unfold deltaF at hd ⊢;rw [dGo_any _ _ _ _ _ (gotD (c.fetchD r.no.toNat).1.1).body];exact hd⟩
   rcases changeD_ok i b g with ⟨h1,h2,h3,h4,_,h5,_⟩ | ⟨h1,h2,h3,h4,⟨x,h5,h6,_⟩,h7,_⟩
   · refine ⟨h2,h3,fun m ⟨x,q1,q2⟩=>⟨x,h5 m x true q1,by rw [h4];exact q2⟩,fun q=>by rw [h1] at q;exact absurd q (by decide)⟩
   · refine ⟨h2,h3,fun m ⟨y,q1,q2⟩=>?_,fun _=>⟨g,x,h5,by omega⟩⟩
     by_cases e:m=r.no.toNat
     · subst e;exact ⟨x,h5,by omega⟩
     · exact ⟨y,h7 m y true e q1,by omega⟩
 · have hd:(deltaF (gotD (c.fetchD r.no.toNat).1.1).body r.dl).1=false:=by simpa using hd
   have hrd:redoF r.no.toNat (c.fetchD r.no.toNat).1.1 (c.fetchD r.no.toNat).2.lg.fin r=none:=by
     have hon:Rc.onF r (c.fetchD r.no.toNat).1.1=(c.fetchD r.no.toNat).1.1:=by unfold Rc.onF;rw [if_neg (by rw [hk];decide)]
     unfold redoF
     rw [hon,if_neg (fun q=>q f2),if_pos ⟨hk,hd⟩]
   have e:c.changeD r=(2,(c.fetchD r.no.toNat).2.unhold (false,r.no.toNat)):=by
     unfold Ca.changeD
     rw [if_pos hm,if_pos f1,hrd]
   rw [e]
   refine ⟨f3.unhold _,pins_unhold f4 _,fun m ⟨x,q1,q2⟩=>⟨x,sees_unhold (f7 m x true q1),?_⟩,fun q=>absurd q (show ¬ (2:Int)=0 by decide)⟩
   rw [(unhold_same _ _).2.2.1,f6];exact q2
theorem inv_new {d:Dk} (hd:d.fresh) (hs:SmOk d.seen) {pd fr:Nat} (h4:4≤fr∧fr≤32) (ok:(Ca.new d (Lg.new pd 9 80 1 0 1) fr 3 4).ok):Inv (Ca.new d (Lg.new pd 9 80 1 0 1) fr 3 4)∧Bud 0 (Ca.new d (Lg.new pd 9 80 1 0 1) fr 3 4):=by
 refine ⟨⟨ok,hd.fine,hs,hd.n,rfl,rfl,⟨rfl,rfl,rfl,rfl,by simp [Ca.new,Lg.new],by simp [Ca.new,Lg.new]⟩,(fun f hf=>by simp [Ca.new] at hf),(fun f hf=>by simp [Ca.new] at hf)⟩,⟨by show d.ops≤_;have:=hd.ops;omega,fun x hx=>?_⟩⟩
 have:x∈List.replicate fr 0:=hx
 have:=List.eq_of_mem_replicate this
 omega
end Go.Proofs.Ytdfgfbammkojoaa.Sh
namespace Go.Proofs.Ytdfgfbammkojoaa.Sh
open Go Go.Ab Go.RowKit
open Go.Proofs.Ytdfgfbammkojoaa.Ru (Pg okP)
open Go.Proofs.Ytdfgfbammkojoaa.Rcn (Rc)
set_option maxRecDepth 10000
set_option maxHeartbeats 4000000
set_option linter.unusedSectionVars false
def r20:Rc:={ Rc.z 2 with no:=1,ts:=4 }
theorem r20_good:GoodR r20:=by
 refine ⟨⟨by decide,by decide +kernel,by decide,by decide,by decide,by decide,by decide,by decide,by decide,by decide,by decide,by decide,by decide,by decide⟩,by decide +kernel,rfl,by decide,fun b=>rfl⟩
theorem bld20:aBuild Pg 38 [(0,.int .u8 2),(1,pidV false 1),(3,.int .u32 4)]=some r20.v:=by kernel_rfl
theorem seen_ok {h:AH} {p:Nat} {n:BsN} {f:Cfg} {c:Ca} (k:BsA h p n f c):SmOk c.dk.seen:=by
 obtain ⟨lv,ka⟩:=k.ca
 exact ka.dk.ok.seen
theorem awakeP20 {h:AH} (own:OwnAll h):ACalls Pg 6 [] h fun e h'=>e=.ret (.bool true)∧OwnAll h':=by
 refine C6 _ _ ?_
 refine (freshP (fr:=4) ⟨by decide,by decide⟩ own).mono fun e h1 q=>?_
 obtain ⟨pd,pb,n,d,rfl,q1,e1,hd,k1⟩:=q
 have own1:=q1.own own
 obtain ⟨i1,b1⟩:=inv_new hd (seen_ok k1) (pd:=pd) (fr:=4) ⟨by decide,by decide⟩ (by obtain ⟨lv,ka⟩:=k1.ca;exact ka.ok)
 have hfree:(Ca.new d (Lg.new pd 9 80 1 0 1) 4 3 4).lg.free=80:=rfl
 generalize Ca.new d (Lg.new pd 9 80 1 0 1) 4 3 4=c1 at *
 refine aEnd_ret ?_
 refine bindS_mk (show aExtract (.tup [dkP pd,bsP pb]) 0=some _ from rfl) ?_
 refine bindS_mk (show aExtract (.tup [dkP pd,bsP pb]) 1=some (bsP pb) from rfl) ?_
 refine bindS_mk (nnBs pb) ?_
 refine i_f ?_
 refine Meet.of (cast_p (Jz6i_eq ..) ?_)
 refine bindS_mk (show aBuild Pg 29 [(1,.int .u16 1)]=some (pidV false 1) by kernel_rfl) ?_
 refine bindS_mk bld20 ?_
 have g:=r20_good
 refine callG (bsChangeD k1 own1 g.ok g.k (i1.fit b1 (by decide)) (i1.nf _)) fun h2 q2 k2=>?_
 have own2:=q2.own own1
 have hc:(c1.changeD r20).1=0∧Inv (c1.changeD r20).2∧Bud 1 (c1.changeD r20).2∧8≤(c1.changeD r20).2.lg.fin∧∃ x,(c1.changeD r20).2.sees 1 x true∧getW x 15 4=4:=by
   rcases changeD_ok i1 b1 g with ⟨h1,_,_,_,h5,_⟩ | ⟨h1,h2,h3,h4,⟨x,h5,_,h6⟩,_⟩
   · omega
   · have:=i1.lg.fin
     exact ⟨h1,h2,h3,by omega,x,h5,h6⟩
 obtain ⟨c0,i2,b2,l2,x,s2,t2⟩:=hc
 rw [c0]
 generalize (c1.changeD r20).2=c2 at *
 refine callS (bsCache k2) ?_
 refine bindS_mk (show aBuild Pg 29 [(1,.int .u16 1)]=some (pidV false 1) by kernel_rfl) ?_
 obtain ⟨lv2,ka2⟩:=k2.ca
 have ft2:=i2.fit b2 (by decide)
 have fo:=fetchD_ok i2 b2 (no:=1) (by decide)
 refine callG (caFetchN (i:=(false,1)) (rt:=rtD 1) (bl:=blD 1) ka2 own2 (by decide) (by have:=ft2.ops;omega) (fun x hx=>by have:=ft2.pins x hx;omega) (i2.nf _) (fun x h hx=>rightDP hx (by decide) h) (fun h=>blankDP (by decide) h) (putD_len _)) fun h3 q3 k3=>?_
 have own3:=q3.own own2
 obtain ⟨f1,f2,f3,f4,f5,f6,f7,f8⟩:=fo
 have kb3:=k2.ca_new q3 rfl k3
 clear k3
 have ex:=f8 x true s2
 unfold Ca.fetchD at *
 generalize c2.fetchN (rtD 1) (blD 1) (false,1)=ft at *
 obtain ⟨⟨y,e⟩,c3⟩:=ft
 simp only at f1 f2 f3 f4 f5 f6 f7 f8 ex kb3 ⊢
 subst ex f1
 have hy:y.length=224:=by
   obtain ⟨j,y1,y2,y3,y4⟩:=f5
   rw [← y4]
   have:=f3.ok.fr (c3.frame j) (by
     unfold Ca.frame
     rw [List.getElem?_eq_getElem y2]
     exact List.getElem_mem y2)
   exact this.p
 refine bindS_mk (show aExtract (fetV (y,0)) 0=some (.agg (bytesV y)) from rfl) ?_
 refine bindS_mk (show aExtract (fetV (y,0)) 1=some (.int .i64 0) from rfl) ?_
 refine bindE (al_at zPay (shPay (zer_len 224))) fun h4 u4=>?_
 have n4:=u4.next
 refine bindE (st_at (p:=[]) u4.at_ (by kernel_rfl) rfl (shPay hy) rfl) fun h5 u5=>?_
 have n5:=u5.next
 have q5:Keeps [] h3 h5:=(Keeps.new u4).young u5 (Nat.le_refl _)
 have own5:=q5.own own3
 have k5:=kb3.keep q5 rfl
 refine bindV_mk (ld_mk (p:=[]) u5.at_ (by kernel_rfl) rfl) ?_
 refine callS (getDP hy (by decide) h5) ?_
 rw [getDV_t f2]
 have dok:=gotD_ok hy
 refine bindS_mk (show aExtract (.tup [(gotD y).v,.int .i64 0]) 0=some (gotD y).v from rfl) ?_
 refine bindS_mk (show aExtract (.tup [(gotD y).v,.int .i64 0]) 1=some (.int .i64 0) from rfl) ?_
 refine bindE (al_at zDt (shDt zOk)) fun h6 u6=>?_
 have n6:=u6.next
 refine bindE (st_at (p:=[]) u6.at_ (by kernel_rfl) rfl (shDt dok) rfl) fun h7 u7=>?_
 have n7:=u7.next
 have q7:Keeps [] h5 h7:=(Keeps.new u6).young u7 (Nat.le_refl _)
 have own7:=q7.own own5
 have k7:=k5.keep q7 rfl
 have f7:h7.m h5.next=some (.cells true (.one 83) (gotD y).v):=u7.at_
 refine fS_eql_t rfl ?_
 refine g_tt ?_
 refine fS_eql_t rfl ?_
 refine Meet.of (cast_p (Gz1p_eq ..) ?_)
 refine fV_pt ?_
 refine g_tt ?_
 refine fS_eql_t rfl ?_
 refine Meet.of (cast_p (Gz1q_eq ..) ?_)
 refine fV_pt ?_
 refine g_tt ?_
 refine fS_fa (by kernel_rfl) ?_
 refine fV_ld f7 (by kernel_rfl) (w:=.int .u32 4) (by show some (V.int .u32 ((getW y 15 4:Nat):Int))=_;rw [t2];rfl) ?_
 refine fS_eql_t rfl ?_
 refine Meet.of (cast_p (Gz1r_eq ..) ?_)
 refine fV_pt ?_
 refine g_tt ?_
 refine callS (bsLog k7) ?_
 obtain ⟨lv7,ka7⟩:=k7.ca
 refine callS (lgEnd ka7.lg) ?_
 have hfin:8≤c3.lg.fin:=by rw [f6];exact l2
 refine fS_gtr_t (by omega) ?_
 refine Meet.of (cast_p (Gz1s_eq ..) ?_)
 refine fV_pt ?_
 refine Meet.of (cast_p (Jz6j_eq ..) ?_)
 exact ⟨rfl,own7⟩
end Go.Proofs.Ytdfgfbammkojoaa.Sh
namespace Go.Ab
open Go Go.RowKit
variable {P:Program}
theorem acalls_subL {f:FuncId} {args:List V} {v:V} {h hs:AH} (hn:hs.next=h.next) (hsub:∀ n o,hs.m n=some o→h.m n=some o) (ho:oldV (fun n=>(hs.m n).isSome) v=true)
   (c:ACalls P f args hs (pureE v hs)):ACalls P f args h (pureE v h):=by
 intro B ι W vs F r
 let Bs:Base:=⟨fun b=>b < W.heap.size∧∀ n o L,hs.m n=some o→o.isOwn=true→ι n=some L→b≠L.blk,W⟩
 have Fs:Fits P Bs ι hs W :=
   ⟨fun n o hm=>F.obj n o (hsub n o hm),fun n hk=>F.fresh n (by omega),fun n n' o o' L L' a b=>F.apart n n' o o' L L' (hsub n o a) (hsub n' o' b),
     fun n o L hm how hL hb=>hb.2 n o L hm how hL rfl,fun b hb=>⟨rfl,hb.1⟩,rfl,rfl,rfl,Nat.le_refl _⟩
 refine (c Bs ι W vs Fs r).mono ?_
 rintro e w' ⟨ι',h',ae,h1,h2,h3,h4⟩
 cases ae with
 | panic _=>exact h4.elim
 | ret u =>
   obtain ⟨hu,hh⟩:=h4
   rw [hh] at h2
   subst hu
   have Ff:=Fs.forget h2 h1 fun n _=>rfl
   refine ⟨ι,h,.ret u,Names.le_refl _,?_,?_,rfl,rfl⟩
   · refine ⟨fun n o hm=>?_,F.fresh,F.apart,F.free,fun b hb=>?_,h2.os.trans F.os,h2.tape.trans F.tape,h2.output.trans F.output,Nat.le_trans F.size h2.size⟩
     · cases hsn:hs.m n with
       | some o' =>
         have:=hsub n o' hsn
         rw [hm] at this;cases this
         exact Ff.obj n o hsn
       | none =>
         obtain ⟨L,hL,hr⟩:=F.obj n o hm
         refine ⟨L,hL,objR_keep (Names.le_refl _) (h2.frame L.blk ⟨objR_blk hr,fun n2 o2 L2 a b d q=>?_⟩).1 hr⟩
         have hne:n2≠n:=fun q=>by rw [q,hsn] at a;cases a
         exact F.apart n2 n o2 o L2 L (hsub n2 o2 a) hm hne b d hL q.symm
     · obtain ⟨g1,g2⟩:=F.frame b hb
       obtain ⟨k1,k2⟩:=h2.frame b ⟨g2,fun n o L a how hL q=>F.free n o L (hsub n o a) how hL (q▸hb)⟩
       exact ⟨k1.trans g1,k2⟩
   · cases e with
     | returned x =>
       refine old_rel (fun n hn=>?_) h1 ho h3
       obtain ⟨o,hm⟩:=Option.isSome_iff_exists.1 hn
       obtain ⟨L,hL,_⟩:=Fs.obj n o hm
       exact ⟨L,hL⟩
     | panicked c=>exact h3.elim
     | outgrown=>exact h3.elim
def AH.ownPart (h:AH):AH:=⟨h.next,fun n=>match h.m n with
 | some o=>if o.isOwn then some o else none
 | none=>none⟩
theorem ownPart_own {h:AH} {n:Nat} {o:AO} (hm:h.ownPart.m n=some o):o.isOwn=true∧h.m n=some o:=by
 simp only [AH.ownPart] at hm
 split at hm
 · rename_i o' ho
   split at hm
   · rename_i hw;cases hm;exact ⟨hw,ho⟩
   · cases hm
 · cases hm
theorem ownPart_at {h:AH} {n:Nat} {o:AO} (hm:h.m n=some o) (how:o.isOwn=true):h.ownPart.m n=some o:=by
 simp only [AH.ownPart,hm,how,if_true]
end Go.Ab
