import Derived.Test.YtdfgfbammkojoaaF17
import Derived.Test.YtdfgfbammkojoaaF13
import Derived.Test.YtdfgfbammkojoaaF08
import Derived.Carry
import Derived.ChangeArms
set_option linter.unusedVariables false
set_option linter.unusedSimpArgs false
namespace Go.Ab
open Go Go.RowKit
variable {P:Program}
def AH.over (hs h:AH):AH:=⟨hs.next,fun n=>match hs.m n with
 | some o=>some o
 | none=>if n < hs.next then (match h.m n with
   | some o=>if o.isOwn then none else some o
   | none=>none) else none⟩
theorem over_own {hs h:AH} {n:Nat} {o:AO} (hm:hs.m n=some o):(hs.over h).m n=some o:=by
 simp only [AH.over,hm]
theorem over_mem {hs h:AH} {n:Nat} {o:AO} (hm:(hs.over h).m n=some o):hs.m n=some o∨(hs.m n=none∧h.m n=some o∧o.isOwn=false):=by
 simp only [AH.over] at hm
 split at hm
 · rename_i o' ho;cases hm;exact .inl ho
 · rename_i ho
   split at hm
   · split at hm
     · rename_i o' ho'
       split at hm
       · cases hm
       · rename_i hw;cases hm;exact .inr ⟨ho,ho',by simpa using hw⟩
     · cases hm
   · cases hm
theorem over_not {hs h:AH} {n:Nat} {o:AO} (hn:n < hs.next) (hs0:hs.m n=none) (hm:h.m n=some o) (ho:o.isOwn=false):(hs.over h).m n=some o:=by
 simp only [AH.over,hs0,hm,hn,if_true,ho,Bool.false_eq_true,if_false]
theorem acalls_frame {f:FuncId} {args:List V} {h:AH} {Q:AEnd→AH→Prop} (c:ACalls P f args h.ownPart Q):ACalls P f args h fun e h'=>∃ hs,Q e hs∧h'=hs.over h:=by
 intro B ι W vs F r
 have hsub:∀ n o,h.ownPart.m n=some o→h.m n=some o:=fun n o q=>(ownPart_own q).2
 let Bs:Base:=⟨fun b=>b < W.heap.size∧∀ n o L,h.ownPart.m n=some o→o.isOwn=true→ι n=some L→b≠L.blk,W⟩
 have Fs:Fits P Bs ι h.ownPart W :=
   ⟨fun n o hm=>F.obj n o (hsub n o hm),fun n hk=>F.fresh n hk,fun n n' o o' L L' a b=>F.apart n n' o o' L L' (hsub n o a) (hsub n' o' b),
     fun n o L hm how hL hb=>hb.2 n o L hm how hL rfl,fun b hb=>⟨rfl,hb.1⟩,rfl,rfl,rfl,Nat.le_refl _⟩
 refine (c Bs ι W vs Fs r).mono ?_
 rintro e w' ⟨ι',hs,ae,h1,h2,h3,h4⟩
 -- the blocks that are not one's own
 have ext:∀ n o,h.m n=some o→o.isOwn=false→∃ L,ι n=some L∧Bs.F L.blk∧objR P ι' w' L o:=fun n o hm ho=>by
   obtain ⟨L,hL,hr⟩:=F.obj n o hm
   have hb:Bs.F L.blk:=⟨objR_blk hr,fun n2 o2 L2 a b d q=>by
     have hne:n2≠n:=fun e=>by subst e;rw [hsub _ _ a] at hm;cases hm;rw [ho] at b;cases b
     exact F.apart n2 n o2 o L2 L (hsub n2 o2 a) hm hne b d hL q.symm⟩
   exact ⟨L,hL,hb,objR_keep h1 (h2.frame L.blk hb).1 hr⟩
 refine ⟨ι',hs.over h,ae,h1,?_,h3,hs,h4,rfl⟩
 refine ⟨fun n o hm=>?_,h2.fresh,fun n n' o o' L L' a b hne how hL hL'=>?_,fun n o L hm how hL hb=>?_,fun b hb=>?_,h2.os.trans F.os,h2.tape.trans F.tape,h2.output.trans F.output,Nat.le_trans F.size h2.size⟩
 · rcases over_mem hm with q | ⟨q1,q2,q3⟩
   · exact h2.obj n o q
   · obtain ⟨L,hL,_,hr⟩:=ext n o q2 q3
     exact ⟨L,h1 _ _ hL,hr⟩
 · have ha:hs.m n=some o:=by
     rcases over_mem a with q | ⟨_,_,q3⟩
     · exact q
     · rw [q3] at how;cases how
   rcases over_mem b with q | ⟨q1,q2,q3⟩
   · exact h2.apart n n' o o' L L' ha q hne how hL hL'
   · obtain ⟨L2,hL2,hb,_⟩:=ext n' o' q2 q3
     rw [h1 _ _ hL2] at hL';cases hL'
     exact fun e=>h2.free n o L ha how hL (e▸hb)
 · have ha:hs.m n=some o:=by
     rcases over_mem hm with q | ⟨_,_,q3⟩
     · exact q
     · rw [q3] at how;cases how
   refine h2.free n o L ha how hL ?_
   obtain ⟨g1,g2⟩:=F.frame _ hb
   exact ⟨g2,fun n2 o2 L2 a how2 hL2 q=>F.free n2 o2 L2 (hsub n2 o2 a) how2 hL2 (q▸hb)⟩
 · obtain ⟨g1,g2⟩:=F.frame b hb
   obtain ⟨k1,k2⟩:=h2.frame b ⟨g2,fun n o L a how hL q=>F.free n o L (hsub n o a) how hL (q▸hb)⟩
   exact ⟨k1.trans g1,k2⟩
theorem ownPart_all (h:AH):OwnAll h.ownPart:=fun n o hm=>(ownPart_own hm).1
theorem ownPart_none {h:AH} {n:Nat} {o:AO} (hm:h.m n=some o) (ho:o.isOwn=false):h.ownPart.m n=none:=by
 simp only [AH.ownPart,hm,ho,Bool.false_eq_true,if_false]
theorem ownPart_over {hs h:AH} (ho:OwnAll hs):(hs.over h).ownPart=hs:=by
 have:(fun n=>match (hs.over h).m n with | some o=>if o.isOwn then some o else none | none=>none)=hs.m:=by
   funext n
   cases hm:hs.m n with
   | some o=>simp only [over_own hm,ho n o hm,if_true]
   | none =>
     cases hv:(hs.over h).m n with
     | none=>rfl
     | some o =>
       rcases over_mem hv with q | ⟨_,_,q3⟩
       · rw [hm] at q;cases q
       · simp only [q3,Bool.false_eq_true,if_false]
 show AH.mk hs.next (fun n=>match (hs.over h).m n with | some o=>if o.isOwn then some o else none | none=>none)=hs
 rw [this]
theorem New.part {h h':AH} {o:AO} (u:New h h' o) (ho:o.isOwn=true:=by rfl):New h.ownPart h'.ownPart o :=
 ⟨u.next,ownPart_at u.at_ ho,fun k hk=>by simp only [AH.ownPart,u.other k hk],fun k hk=>by simp only [AH.ownPart,u.above k hk]⟩
theorem Upd.part {h h':AH} {n:Nat} {o:AO} (u:Upd h h' n o) (ho:o.isOwn=true:=by rfl):Upd h.ownPart h'.ownPart n o :=
 ⟨u.next,ownPart_at u.at_ ho,fun k hk=>by simp only [AH.ownPart,u.other k hk]⟩
end Go.Ab
namespace Go.Ab
open Go Go.RowKit
variable {P:Program}
structure KeepsF (T:Tags) (h h':AH):Prop where
 own:Keeps T h.ownPart h'.ownPart
 not:∀ n o,n < h.next→h.m n=some o→o.isOwn=false→h'.m n=some o
 only:∀ n o,h'.m n=some o→o.isOwn=false→h.m n=some o
 next:h.next≤h'.next
theorem KeepsF.refl (T:Tags) (h:AH):KeepsF T h h:=⟨Keeps.refl _ _,fun _ _ _ a _=>a,fun _ _ a _=>a,Nat.le_refl _⟩
theorem KeepsF.trans {T:Tags} {h h1 h2:AH} (a:KeepsF T h h1) (b:KeepsF T h1 h2):KeepsF T h h2 :=
 ⟨a.own.trans b.own,fun n o hn hm ho=>b.not n o (Nat.lt_of_lt_of_le hn a.next) (a.not n o hn hm ho) ho,fun n o hm ho=>a.only n o (b.only n o hm ho) ho,Nat.le_trans a.next b.next⟩
theorem KeepsF.sub {T T':Tags} {h h':AH} (a:KeepsF T h h') (hT:(T.all fun t=>T'.contains t)=true):KeepsF T' h h':=⟨a.own.sub hT,a.not,a.only,a.next⟩
theorem KeepsF.new {T:Tags} {h h':AH} {o:AO} (u:New h h' o) (ho:o.isOwn=true:=by rfl):KeepsF T h h' :=
 ⟨Keeps.new (u.part ho) ho,fun n o' hn hm _=>(u.other n hn).trans hm,(fun n o' hm hw=>by
   rcases u.mem hm with q | q
   · exact q
   · subst q;rw [ho] at hw;cases hw),by have:=u.next;omega⟩
theorem KeepsF.upd {T:Tags} {h h':AH} {n:Nat} {o o0:AO} (u:Upd h h' n o) (hm:h.m n=some o0) (ht:o.tag=o0.tag) (hT:T.contains o0.tag=true) (ho0:o0.isOwn=true:=by rfl) (ho:o.isOwn=true:=by rfl):KeepsF T h h' :=
 ⟨Keeps.upd (u.part ho) (ownPart_at hm ho0) ht hT ho,fun k o' hk hm' hw=>by
   have:k≠n:=fun e=>by subst e;rw [hm] at hm';cases hm';rw [ho0] at hw;cases hw
   exact (u.other k this).trans hm',fun k o' hm' hw=>by
   by_cases e:k=n
   · subst e;rw [u.at_] at hm';cases hm';rw [ho] at hw;cases hw
   · rw [u.other k e] at hm';exact hm',by have:=u.next;omega⟩
theorem KeepsF.young {T:Tags} {h h1 h2:AH} {n:Nat} {o:AO} (a:KeepsF T h h1) (u:Upd h1 h2 n o) (hn:h.next≤n) (ho:o.isOwn=true:=by rfl):KeepsF T h h2 :=
 ⟨a.own.young (u.part ho) hn ho,fun k o' hk hm' hw=>by
   have:=a.next
   exact (u.other k (by omega)).trans (a.not k o' hk hm' hw),fun k o' hm' hw=>by
   by_cases e:k=n
   · subst e;rw [u.at_] at hm';cases hm';rw [ho] at hw;cases hw
   · rw [u.other k e] at hm';exact a.only k o' hm' hw,by have:=a.next;have:=u.next;omega⟩
theorem Rep.part {h h':AH} {n:Nat} {o:AO} (u:Rep h h' n o) (ho:o.isOwn=true:=by rfl):Rep h.ownPart h'.ownPart n o :=
 ⟨u.next,ownPart_at u.at_ ho,by simp only [AH.ownPart,u.gone],fun k hk hne=>by simp only [AH.ownPart,u.other k hk hne],fun k hk=>by
   rcases u.above k hk with e | e
   · left;simp only [AH.ownPart,e]
   · right;simp only [AH.ownPart,e]⟩
theorem KeepsF.rep {T:Tags} {h h':AH} {n:Nat} {o o0:AO} (u:Rep h h' n o) (hm:h.m n=some o0) (hT:T.contains o0.tag=true) (ho0:o0.isOwn=true:=by rfl) (ho:o.isOwn=true:=by rfl):KeepsF T h h' :=
 ⟨Keeps.rep (u.part ho) (ownPart_at hm ho0) hT ho,fun k o' hk hm' hw=>by
   have:k≠n:=fun e=>by subst e;rw [hm] at hm';cases hm';rw [ho0] at hw;cases hw
   exact (u.other k hk this).trans hm',fun k o' hm' hw=>by
   rcases Nat.lt_trichotomy k h.next with c | c | c
   · by_cases e:k=n
     · subst e;rw [u.gone] at hm';cases hm'
     · rw [u.other k c e] at hm';exact hm'
   · subst c;rw [u.at_] at hm';cases hm';rw [ho] at hw;cases hw
   · rcases u.above k c with e | e
     · rw [e] at hm';cases hm'
     · rw [e] at hm';exact hm',by have:=u.next;omega⟩
theorem KeepsF.but {T:Tags} {h h':AH} (a:KeepsF T h h'):OwnBut h h':=fun n o hm=>by
 cases ho:o.isOwn with
 | true=>exact .inl rfl
 | false=>exact .inr ⟨o,a.only n o hm ho,ho⟩
theorem over_keeps {T:Tags} {h hs:AH} (q1:Keeps T h.ownPart hs):KeepsF T h (hs.over h):=by
 have ho:=q1.own (ownPart_all h)
 refine ⟨by rw [ownPart_over ho];exact q1,fun n o hl hm hw=>over_not (by have:h.next≤hs.next:=q1.next;omega) (q1.none_ n hl (ownPart_none hm hw)) hm hw,fun n o hm hw=>?_,q1.next⟩
 rcases over_mem hm with q | ⟨_,q,_⟩
 · rw [ho n o q] at hw;cases hw
 · exact q
theorem callO {f:FuncId} {args:List V} {h:AH} {T:Tags} {v:V} {R:AH→Prop} {K X:V→AH→Prop} (c:ACalls P f args h.ownPart (Gives T h.ownPart v R)) (k:∀ h',KeepsF T h h'→R h'.ownPart→K v h'):ACalls P f args h (aEnd K X) :=
 (acalls_frame c).mono fun e h' q=>by
   obtain ⟨hs,⟨rfl,q1,q2⟩,rfl⟩:=q
   exact k _ (over_keeps q1) (by rw [ownPart_over (q1.own (ownPart_all h))];exact q2)
theorem callOQ {f:FuncId} {args:List V} {h:AH} {T:Tags} {Q:AEnd→AH→Prop} {K X:V→AH→Prop} (c:ACalls P f args h.ownPart Q) (hq:∀ e hs,Q e hs→Keeps T h.ownPart hs) (k:∀ e h',KeepsF T h h'→Q e h'.ownPart→∃ v,e=.ret v∧K v h'):ACalls P f args h (aEnd K X) :=
 (acalls_frame c).mono fun e h' q=>by
   obtain ⟨hs,q1,rfl⟩:=q
   have q2:=hq e hs q1
   obtain ⟨v,rfl,q3⟩:=k e _ (over_keeps q2) (by rw [ownPart_over (q2.own (ownPart_all h))];exact q1)
   exact q3
theorem pureO {f:FuncId} {args:List V} {h:AH} {v:V} (ho:oldV (fun n=>(h.ownPart.m n).isSome) v=true) (c:ACalls P f args h.ownPart (pureE v h.ownPart)):ACalls P f args h (pureE v h) :=
 acalls_subL (hs:=h.ownPart) rfl (fun n o q=>(ownPart_own q).2) ho c
end Go.Ab
namespace Go.Proofs.Ytdfgfbammkojoaa.Sh
open Go Go.Ab Go.RowKit
open Go.Proofs.Ytdfgfbammkojoaa.Ru (Pg okP)
open Go.Proofs.Ytdfgfbammkojoaa.Rcn (Rc shR)
set_option maxRecDepth 10000
set_option maxHeartbeats 4000000
set_option linter.unusedSectionVars false
def RowF (e:TypeId) (h:AH) (x:V) (xs:List V):Prop :=
 (x=.slc none 0∧xs=[])∨∃ n,n < h.next∧x=.slc (some (⟨n,.row e,[]⟩,0)) xs.length∧h.m n=some (.cells false (.row e) (.agg xs))
theorem RowF.keep {T:Tags} {e:TypeId} {h h':AH} {x:V} {xs:List V} (b:RowF e h x xs) (q:KeepsF T h h'):RowF e h' x xs:=by
 rcases b with ⟨rfl,rfl⟩ | ⟨n,h1,rfl,h3⟩
 · exact .inl ⟨rfl,rfl⟩
 · exact .inr ⟨n,by have:=q.next;omega,rfl,q.not n _ h1 h3 rfl⟩
theorem RowF.shape {e:TypeId} {h:AH} {x:V} {xs:List V} (b:RowF e h x xs):∃ a,x=.slc a xs.length:=by
 rcases b with ⟨rfl,rfl⟩ | ⟨n,h1,rfl,h3⟩ <;> exact ⟨_,rfl⟩
theorem RwB.full {e:TypeId} {h:AH} {x:V} {xs:List V} (b:RwB e h.ownPart x xs):RwB e h x xs:=by
 rcases b with ⟨rfl,rfl⟩ | ⟨n,h1,rfl,h3⟩
 · exact .inl ⟨rfl,rfl⟩
 · exact .inr ⟨n,h1,rfl,(ownPart_own h3).2⟩
theorem RwB.appO {e t xt:TypeId} {h:AH} {x y:V} {xs ws:List V} (b:RwB e h.ownPart x xs) (hc:apOk Pg t xt e=true) (hy:aElems Pg h e y=some ws) (hw:ws≠[]) (hl:(xs.length + ws.length) * Pg.bytesOf e≤140737488355328) :
   ∃ v h',aBuiltin Pg h .append [t,xt] [x,y]=some (v,h')∧RwB e h'.ownPart v (xs++ws)∧KeepsF [(1,e,0)] h h':=by
 rcases b with ⟨rfl,rfl⟩ | ⟨n,h1,rfl,h3⟩
 · obtain ⟨h',e1,u⟩:=apN_at (n:=0) hc hy hw (by simpa using hl)
   exact ⟨_,h',e1,.inr ⟨h.next,by show _ < h'.next;rw [u.next];omega,rfl,ownPart_at u.at_ rfl⟩,KeepsF.new u⟩
 · have h3':=(ownPart_own h3).2
   obtain ⟨h',e1,u⟩:=apR_at (h:=h) (i:=0) (n:=xs.length) hc (show n < h.next from h1) h3' (by omega) hy hw hl
   refine ⟨_,h',e1,.inr ⟨h.next,by show _ < h'.next;rw [u.next];omega,by rw [List.length_append],?_⟩,KeepsF.rep u h3' (by simp [AO.tag])⟩
   have:=u.at_
   rw [List.drop_zero,List.take_of_length_le (by omega)] at this
   exact ownPart_at this rfl
structure Lw (h:AH) (x:V) (l:List Rc) (pb:Nat) (n:BsN) (c:Ca) (k:Nat) (gv:V) (good:List Rc):Prop where
 arg:RowF 38 h x (l.map Rc.v)
 bs:BsA h.ownPart pb n cfg20 c
 inv:Inv c
 bud:Bud k c
 gd:RwB 38 h.ownPart gv (good.map Rc.v)
 good:∀ r∈good,GoodR r∧c.told r.no.toNat
theorem Lw.keep {T:Tags} {h h':AH} {x:V} {l:List Rc} {pb:Nat} {n:BsN} {c:Ca} {k:Nat} {gv:V} {good:List Rc} (s:Lw h x l pb n c k gv good) (q:KeepsF T h h') (ht:outT ((1,38,0) :: TBs) T=true):Lw h' x l pb n c k gv good:=by
 have h2:=ht
 unfold outT at h2
 rw [List.all_cons,Bool.and_eq_true] at h2
 exact ⟨s.arg.keep q,s.bs.keep q.own h2.2,s.inv,s.bud,s.gd.keep q.own (outT_at ht (by simp)),s.good⟩
theorem Lw.change {h:AH} {x:V} {l:List Rc} {pb:Nat} {n:BsN} {c:Ca} {k:Nat} {gv:V} {good:List Rc} (s:Lw h x l pb n c k gv good) (hk:k≤90000) {r:Rc} (o:r.ok) (h2:r.k=2) {K X:V→AH→Prop}
   (q:∀ h',KeepsF TBc h h'→BsA h'.ownPart pb n cfg20 (c.changeD r).2→K (.int .i64 (c.changeD r).1) h'):ACalls Pg 5 [bsP pb,r.v] h (aEnd K X) :=
 callO (bsChangeD s.bs (ownPart_all h) o h2 (s.inv.fit s.bud (by omega)) (s.inv.nf _)) q
theorem shRc {r:Rc} (o:r.ok):hasShape Pg r.v 38=true:=shR r o.im
theorem zRc:zeroV Pg 38=some (Rc.z 0).v:=by kernel_rfl
theorem awakeO (h:AH) {K X:V→AH→Prop} (q:∀ h',K (.bool true) h'):ACalls Pg 6 [] h (aEnd K X) :=
 (acalls_frame (awakeP20 (ownPart_all h))).mono fun e h' g=>by
   obtain ⟨hs,⟨rfl,_⟩,rfl⟩:=g
   exact q _
section
variable {x:V} {l:List Rc} {pb:Nat} {n:BsN}
abbrev QT:AEnd→AH→Prop:=fun e _=>e=.ret (.bool true)
theorem Lw.fetch {h:AH} {c:Ca} {k:Nat} {gv:V} {good:List Rc} (s:Lw h x l pb n c k gv good) (hk:k≤90000) {no:Nat} (hno:no < 3) {K X:V→AH→Prop}
   (q:∀ h',KeepsF TFe h h'→BsA h'.ownPart pb n cfg20 (c.fetchD no).2→K (fetV (c.fetchD no).1) h'):ACalls Pg 10 [caP n.pc,pidV false no] h (aEnd K X):=by
 obtain ⟨lv,ka⟩:=s.bs.ca
 have ft:=s.inv.fit s.bud (by omega)
 refine callO (caFetchN (i:=(false,no)) (rt:=rtD no) (bl:=blD no) ka (ownPart_all h) (by show no < 65536;omega) (by have:=ft.ops;omega) (fun x hx=>by have:=ft.pins x hx;omega) (s.inv.nf _) (fun x h hx=>rightDP hx (by omega) h) (fun h=>blankDP (by omega) h) (putD_len _)) fun h' q1 k1=>?_
 exact q h' q1 (s.bs.ca_new q1.own rfl k1)
theorem Lw.log {h:AH} {c:Ca} {k:Nat} {gv:V} {good:List Rc} (s:Lw h x l pb n c k gv good):ACalls Pg 7 [bsP pb] h (pureE (lgP n.c.l) h):=by
 obtain ⟨lv,ka⟩:=s.bs.ca
 obtain ⟨sv,pv,kl⟩:=ka.lg
 exact pureO (by show (h.ownPart.m n.c.l).isSome=true;rw [kl.log];rfl) (bsLog s.bs)
theorem Lw.cache {h:AH} {c:Ca} {k:Nat} {gv:V} {good:List Rc} (s:Lw h x l pb n c k gv good):ACalls Pg 9 [bsP pb] h (pureE (caP n.pc) h):=by
 obtain ⟨lv,ka⟩:=s.bs.ca
 exact pureO (by show (h.ownPart.m n.pc).isSome=true;rw [ka.cache];rfl) (bsCache s.bs)
theorem Lw.end_ {h:AH} {c:Ca} {k:Nat} {gv:V} {good:List Rc} (s:Lw h x l pb n c k gv good):ACalls Pg 8 [lgP n.c.l] h (pureE (.int .u64 c.lg.fin) h):=by
 obtain ⟨lv,ka⟩:=s.bs.ca
 exact pureO rfl (lgEnd ka.lg)
theorem Lw.free {h:AH} {c:Ca} {k:Nat} {gv:V} {good:List Rc} (s:Lw h x l pb n c k gv good):ACalls Pg 12 [lgP n.c.l] h (pureE (.int .i64 c.lg.free) h):=by
 obtain ⟨lv,ka⟩:=s.bs.ca
 exact pureO rfl (lgFree ka.lg)
theorem told_fetch {c:Ca} {k:Nat} (i:Inv c) (b:Bud k c) {no m:Nat} (hno:no < 3) (t:c.told m):(c.fetchD no).2.told m:=by
 obtain ⟨f1,f2,f3,f4,f5,f6,f7,f8⟩:=fetchD_ok i b hno
 obtain ⟨y,q1,q2⟩:=t
 exact ⟨y,f7 m y true q1,by rw [f6];exact q2⟩
theorem fullL {h:AH} {c:Ca} {k:Nat} {gv:V} {good:List Rc} (s:Lw h x l pb n c k gv good) (hk:k≤80000) {r:Rc} (g:GoodR r) (hfree:c.lg.free≤2) (hap:(c.lg.append r.enc).1.2≠0) {y:List UInt8} (hy:c.sees r.no.toNat y true) (hl:getW y 7 8 < c.lg.fin) (m nb:Nat) (hnb:nb < h.next) (hfb:h.m nb=some (.cells true (.one 38) r.v)) :
   Jz4h QT m (bsP pb) (.ptr (some ⟨nb,.one 38,[]⟩)) (.int .i64 5) h:=by
 have hno:=g.no
 have ev:getV r.v [1]=some (pidV false r.no.toNat):=by
   have h1:=(may2 g.may g.k).1
   have h2:=g.ok.no
   show some (V.agg [.bool r.undo,.int .u16 r.no])=some (.agg [.bool false,.int .u16 ((r.no.toNat:Nat):Int)])
   rw [h1,show ((r.no.toNat:Nat):Int)=r.no by omega]
 rw [Jz4h_eq]
 refine callS s.log ?_
 refine callS s.end_ ?_
 refine ⟨_,s.cache,?_⟩
 refine fO_fa (by kernel_rfl) ?_
 refine fW_ld hfb (by kernel_rfl) (w:=pidV false r.no.toNat) ev ?_
 obtain ⟨f1,f2,f3,f4,f5,f6,f7,f8⟩:=fetchD_ok s.inv s.bud hno
 refine s.fetch (by omega) hno fun h1 q1 k1=>?_
 have s1:Lw h1 x l pb n (c.fetchD r.no.toNat).2 (k + 1) gv good:=⟨s.arg.keep q1,k1,f3,f4,s.gd.keep q1.own rfl,fun r' hr=>⟨(s.good r' hr).1,told_fetch s.inv s.bud hno (s.good r' hr).2⟩⟩
 have hy1:=f7 _ _ _ hy
 have ex:=f8 _ _ hy
 have n1:=q1.next
 have hb1:h1.m nb=some (.cells true (.one 38) r.v):=(ownPart_own (q1.own.at (ownPart_at hfb rfl) hnb rfl)).2
 have hlen:y.length=224:=by
   obtain ⟨j,y1,y2,y3,y4⟩:=f5
   have:=f3.ok.fr ((c.fetchD r.no.toNat).2.frame j) (by
     unfold Ca.frame
     rw [List.getElem?_eq_getElem y2]
     exact List.getElem_mem y2)
   rw [← ex,← y4];exact this.p
 generalize c.fetchD r.no.toNat=ft at *
 obtain ⟨⟨y',e'⟩,c1⟩:=ft
 simp only at f1 f2 f3 f4 f5 f6 f7 f8 k1 s1 hy1 ex ⊢
 subst f1 ex
 refine bindSO_mk (show aExtract (fetV (y',0)) 0=some (.agg (bytesV y')) from rfl) ?_
 refine bindSO_mk (show aExtract (fetV (y',0)) 1=some (.int .i64 0) from rfl) ?_
 refine flo_mkB zPay (shPay (zer_len 224)) (old_bytes _ _) q1.but ?_
 have u2:=new_make h1 (.cells true (.one 31) (.agg (bytesV (zer 224))))
 generalize h1.make (.cells true (.one 31) (.agg (bytesV (zer 224))))=h2 at u2 ⊢
 have n2:=u2.next
 refine bindE (st_at (p:=[]) u2.at_ (by kernel_rfl) rfl (shPay hlen) rfl) fun h3 u3=>?_
 have n3:=u3.next
 have q3:KeepsF [] h1 h3:=(KeepsF.new u2).young u3 (Nat.le_refl _)
 have s3:=s1.keep q3 rfl
 have hb3:h3.m nb=some (.cells true (.one 38) r.v):=(u3.other _ (by omega)).trans ((u2.other _ (by omega)).trans hb1)
 have f12:h3.m h1.next=some (.cells true (.one 31) (.agg (bytesV y'))):=u3.at_
 -- again
 refine fV_ld hb3 (by kernel_rfl) (w:=r.v) rfl ?_
 have hc:=changeD_ok s3.inv s3.bud g
 refine s3.change (by omega) g.ok g.k fun h4 q4 k4=>?_
 have hc:(c1.changeD r).1=5∧Inv (c1.changeD r).2∧Bud (k + 2) (c1.changeD r).2∧(c1.changeD r).2.lg=c1.lg∧∀ m x d,c1.sees m x d→(c1.changeD r).2.sees m x d:=by
   rcases hc with ⟨a1,a2,a3,a4,a5,a6,a7⟩ | ⟨a1,a2,a3,a4,a5,a6,a7⟩
   · exact ⟨a1,a2,a3,a4,a6⟩
   · have:=a7 _ hy1
     rw [f6] at this
     exact absurd this hap
 obtain ⟨a1,a2,a3,a4,a5⟩:=hc
 rw [a1]
 have n4:=q4.next
 have s4:Lw h4 x l pb n (c1.changeD r).2 (k + 2) gv good:=⟨s3.arg.keep q4,k4,a2,a3,s3.gd.keep q4.own rfl,fun r' hr=>⟨(s.good r' hr).1,by
   obtain ⟨z,z1,z2⟩:=(s3.good r' hr).2
   exact ⟨z,a5 _ _ _ z1,by rw [a4];exact z2⟩⟩⟩
 have hy4:=a5 _ _ _ hy1
 have hb4:h4.m nb=some (.cells true (.one 38) r.v):=(ownPart_own (q4.own.at (ownPart_at hb3 rfl) (show nb < h3.next by omega) rfl)).2
 have f14:h4.m h1.next=some (.cells true (.one 31) (.agg (bytesV y'))):=(ownPart_own (q4.own.at (ownPart_at f12 rfl) (show h1.next < h3.next by omega) rfl)).2
 have l4:(c1.changeD r).2.lg=c.lg:=a4.trans f6
 generalize (c1.changeD r).2=c4 at *
 refine ⟨_,s4.cache,?_⟩
 refine fO_fa (by kernel_rfl) ?_
 refine fW_ld hb4 (by kernel_rfl) (w:=pidV false r.no.toNat) ev ?_
 obtain ⟨g1,g2,g3,g4,g5,g6,g7,g8⟩:=fetchD_ok s4.inv s4.bud hno
 refine s4.fetch (by omega) hno fun h5 q5 k5=>?_
 have s5:Lw h5 x l pb n (c4.fetchD r.no.toNat).2 (k + 3) gv good:=⟨s4.arg.keep q5,k5,g3,g4,s4.gd.keep q5.own rfl,fun r' hr=>⟨(s4.good r' hr).1,told_fetch s4.inv s4.bud hno (s4.good r' hr).2⟩⟩
 have ex5:=g8 _ _ hy4
 have n5:=q5.next
 have l5:(c4.fetchD r.no.toNat).2.lg=c.lg:=g6.trans l4
 have f15:h5.m h1.next=some (.cells true (.one 31) (.agg (bytesV y'))):=(ownPart_own (q5.own.at (ownPart_at f14 rfl) (show h1.next < h4.next by omega) rfl)).2
 generalize c4.fetchD r.no.toNat=ft5 at *
 obtain ⟨⟨y5,e5⟩,c5⟩:=ft5
 simp only at g1 g2 g3 g4 g5 g6 g7 g8 k5 s5 ex5 l5 ⊢
 subst g1 ex5
 refine bindSO_mk (show aExtract (fetV (y5,0)) 0=some (.agg (bytesV y5)) from rfl) ?_
 refine bindSO_mk (show aExtract (fetV (y5,0)) 1=some (.int .i64 0) from rfl) ?_
 refine flo_mkB zPay (shPay (zer_len 224)) (old_bytes _ _) q5.but ?_
 have u6:=new_make h5 (.cells true (.one 31) (.agg (bytesV (zer 224))))
 generalize h5.make (.cells true (.one 31) (.agg (bytesV (zer 224))))=h6 at u6 ⊢
 have n6:=u6.next
 refine bindE (st_at (p:=[]) u6.at_ (by kernel_rfl) rfl (shPay hlen) rfl) fun h7 u7=>?_
 have n7:=u7.next
 have q7:KeepsF [] h5 h7:=(KeepsF.new u6).young u7 (Nat.le_refl _)
 have s7:=s5.keep q7 rfl
 have f17:h7.m h1.next=some (.cells true (.one 31) (.agg (bytesV y5))):=(u7.other _ (by omega)).trans ((u6.other _ (by omega)).trans f15)
 have f27:h7.m h5.next=some (.cells true (.one 31) (.agg (bytesV y5))):=u7.at_
 refine fS_neq_f rfl ?_
 refine g_ff ?_
 refine fS_neq_f rfl ?_
 refine Meet.of (cast_p (Gzl_eq ..) ?_)
 refine fV_pf ?_
 refine g_ff ?_
 refine fS_neq_f rfl ?_
 refine Meet.of (cast_p (Gzm_eq ..) ?_)
 refine fV_pf ?_
 refine g_ff ?_
 refine fV_ld f17 (by kernel_rfl) (w:=.agg (bytesV y5)) rfl ?_
 refine callS (lsnP hlen h7) ?_
 refine fS_geq_f (by omega) ?_
 refine Meet.of (cast_p (Gzn_eq ..) ?_)
 refine fV_pf ?_
 refine g_ff ?_
 refine callS s7.log ?_
 refine callS s7.free ?_
 rw [l5]
 refine fS_gtr_f (by omega) ?_
 refine Meet.of (cast_p (Gzo_eq ..) ?_)
 refine fV_pf ?_
 refine g_ff ?_
 refine fS_neq_f rfl ?_
 refine Meet.of (cast_p (Gzp_eq ..) ?_)
 refine fV_pf ?_
 refine g_ff ?_
 refine callS s7.log ?_
 refine callS s7.end_ ?_
 rw [l5]
 refine fS_neq_f rfl ?_
 refine Meet.of (cast_p (Gzq_eq ..) ?_)
 refine fV_pf ?_
 refine Meet.of (cast_p (Jz4i_eq ..) ?_)
 refine i_f ?_
 refine Meet.of (cast_p (Jz4j_eq ..) ?_)
 refine fV_ld f17 (by kernel_rfl) (w:=.agg (bytesV y5)) rfl ?_
 refine fV_ld f27 (by kernel_rfl) (w:=.agg (bytesV y5)) rfl ?_
 refine bindS_mk (show aBin Pg .eql 31 (.agg (bytesV y5)) (.agg (bytesV y5)) false=some (.bool true) from ?_) ?_
 · have h1:aBin Pg .eql 31 (.agg (bytesV y5)) (.agg (bytesV y5)) false=if eqOk Pg 31 (.agg (bytesV y5)) (.agg (bytesV y5)) false=true then (aEq Pg 31 (.agg (bytesV y5)) (.agg (bytesV y5))).map .bool else none:=rfl
   have h2:eqOk Pg 31 (.agg (bytesV y5)) (.agg (bytesV y5)) false=true:=by kernel_rfl
   have h3:plainT Pg 20 31=true:=by kernel_rfl
   rw [h1,h2,if_pos rfl]
   unfold aEq
   rw [h3,if_pos rfl,shPay hlen]
   have h4:beqV (.agg (bytesV y5)) (.agg (bytesV y5))=some (y5 == y5):=beq_bytes y5 y5 rfl
   simp [h4]
 refine g_tt ?_
 refine awakeO h7 fun h8=>?_
 refine Meet.of (cast_p (Gzr_eq ..) ?_)
 refine fV_pt ?_
 refine Meet.of (cast_p (Jz4k_eq ..) ?_)
 rfl
set_option maxRecDepth 100000 in
theorem fillL {gv:V} {good:List Rc} {N:Nat} (hN:N=4000) (hg:0 < good.length) (hg2:good.length≤20):∀ (j i m:Nat) (h:AH) (c:Ca) (k:Nat),i + j=N→j < m→Lw h x l pb n c k gv good→k≤1000 + i→1 + 7 * i≤c.lg.fin→Lz7f QT m (bsP pb) gv (.int .i64 (i:Nat)) h
 | j,i,0,h,c,k,e,hm,s,hk,hf=>by omega
 | 0,i,m + 1,h,c,k,e,hm,s,hk,hf=>by
   exfalso
   have h1:=s.inv.lg.fin
   have h2:=s.inv.lg.cap
   omega
 | j + 1,i,m + 1,h,c,k,e,hm,s,hk,hf=>by
   rw [Lz7f_eq]
   refine fS_lss_t (by omega) ?_
   refine i_t ?_
   refine Meet.of (cast_p (Jz4g_eq ..) ?_)
   have gd:=s.gd.full
   obtain ⟨a,ea⟩:=gd.shape
   rw [List.length_map] at ea
   refine bindV_mk (show aBuiltin Pg h .len [22] [gv]=some (.int .i64 good.length,h) by rw [ea];exact len_slc (by kernel_rfl)) ?_
   refine bindS_mk (w_rem (by omega) (by omega)) ?_
   have hi:i % good.length < good.length:=Nat.mod_lt _ hg
   obtain ⟨r,hr⟩:∃ r,good[i % good.length]?=some r:=⟨_,List.getElem?_eq_getElem hi⟩
   have hrv:(good.map Rc.v)[i % good.length]?=some r.v:=by rw [List.getElem?_map,hr];rfl
   obtain ⟨gr,to⟩:=s.good r (List.mem_of_getElem? hr)
   rw [show ((i:Nat):Int) % ((good.length:Nat):Int)=((i % good.length:Nat):Int) by omega]
   obtain ⟨rb,r1,r2,r3⟩:∃ rb,rb < h.next∧gv=.slc (some (⟨rb,.row 38,[]⟩,0)) (good.map Rc.v).length∧h.m rb=some (.cells true (.row 38) (.agg (good.map Rc.v))):=by
     rcases gd with ⟨_,q⟩ | q
     · rw [q] at hrv;cases hrv
     · exact q
   rw [List.length_map] at r2
   have ix:aIndexAddr Pg 22 gv (.int .i64 ((i % good.length:Nat):Int))=some (.ptr (some ⟨rb,.row 38,[0 + (((i % good.length:Nat)):Int).toNat]⟩)):=by
     rw [r2];exact ia_slc _ (by kernel_rfl) (by omega) (by omega)
   refine bindS_mk ix ?_
   refine bindV_mk (ld_mk r3 (by kernel_rfl) (w:=r.v) (by rw [at_nat];exact getV_row hrv)) ?_
   refine bindE (al_at zRc (shRc (r:=Rc.z 0) ⟨by decide,by decide +kernel,by decide,by decide,by decide,by decide,by decide,by decide,by decide,by decide,by decide,by decide,by decide,by decide⟩)) fun h1 u1=>?_
   have n1:=u1.next
   refine bindE (st_at (p:=[]) u1.at_ (by kernel_rfl) rfl (shRc gr.ok) rfl) fun h2 u2=>?_
   have n2:=u2.next
   have q2:KeepsF [] h h2:=(KeepsF.new u1).young u2 (Nat.le_refl _)
   have s2:=s.keep q2 rfl
   have fb:h2.m h.next=some (.cells true (.one 38) r.v):=u2.at_
   refine fV_ld fb (by kernel_rfl) (w:=r.v) rfl ?_
   have hc:=changeD_ok s2.inv s2.bud gr
   refine s2.change (by omega) gr.ok gr.k fun h3 q3 k3=>?_
   have n3:=q3.next
   rcases hc with ⟨a1,a2,a3,a4,a5,a6,a7⟩ | ⟨a1,a2,a3,a4,⟨z,a5,a6,_⟩,a7,_⟩
   · rw [a1]
     refine fS_eql_f (by decide) ?_
     refine i_f ?_
     obtain ⟨y,y1,y2⟩:=to
     have s3:Lw h3 x l pb n (c.changeD r).2 (k + 1) gv good:=⟨s2.arg.keep q3,k3,a2,a3,s2.gd.keep q3.own rfl,fun r' hr'=>⟨(s.good r' hr').1,by
       obtain ⟨w,z1,z2⟩:=(s.good r' hr').2
       exact ⟨w,a6 _ _ _ z1,by rw [a4];exact z2⟩⟩⟩
     exact Meet.of (fullL s3 (by omega) gr (by rw [a4];exact a5) (by rw [a4];exact a7 y y1) (a6 _ _ _ y1) (by rw [a4];exact y2) m h.next (by omega) (ownPart_own (q3.own.at (ownPart_at fb rfl) (show h.next < h2.next by omega) rfl)).2)
   · rw [a1]
     refine fS_eql_t rfl ?_
     refine i_t ?_
     have s3:Lw h3 x l pb n (c.changeD r).2 (k + 1) gv good:=⟨s2.arg.keep q3,k3,a2,a3,s2.gd.keep q3.own rfl,fun r' hr'=>⟨(s.good r' hr').1,by
       by_cases e:r'.no.toNat=r.no.toNat
       · rw [e];exact ⟨z,a5,by omega⟩
       · obtain ⟨w,z1,z2⟩:=(s.good r' hr').2
         exact ⟨w,a7 _ _ _ e z1,by omega⟩⟩⟩
     refine Meet.of (cast_p (Jz4l_eq ..) ?_)
     refine fS_add_i64 (by omega) (by omega) ?_
     exact Meet.of (fillL hN hg hg2 j (i + 1) m h3 _ (k + 1) (by omega) (by omega) s3 (by omega) (by omega))
theorem afterL {h:AH} {c:Ca} {k:Nat} {gv:V} {good:List Rc} (s:Lw h x l pb n c k gv good) (hk:k≤1000) (hg:good.length≤20):Jz4e QT (bsP pb) gv h:=by
 rw [Jz4e_eq]
 obtain ⟨a,ea⟩:=s.gd.full.shape
 rw [List.length_map] at ea
 refine bindV_mk (show aBuiltin Pg h .len [22] [gv]=some (.int .i64 good.length,h) by rw [ea];exact len_slc (by kernel_rfl)) ?_
 by_cases e:good.length=0
 · refine fS_eql_t (by omega) ?_
   refine i_t ?_
   exact awakeO h fun h'=>rfl
 · refine fS_eql_f (by omega) ?_
   refine i_f ?_
   refine Meet.of (cast_p (Jz4f_eq ..) ?_)
   refine ⟨4001,Meet.of ?_⟩
   have:=s.inv.lg.fin
   exact fillL (N:=4000) rfl (by omega) hg 4000 0 4001 h c k rfl (by omega) s (by omega) (by omega)
theorem listL (hok:∀ r∈l,r.ok):∀ (j i m:Nat) (h:AH) (c:Ca) (k:Nat) (gv:V) (good:List Rc),i + j=20→j < m→Lw h x l pb n c k gv good→k≤i→good.length≤i→Lz7e QT m x (bsP pb) gv (.int .i64 (i:Nat)) h
 | j,i,0,h,c,k,gv,good,e,hm,s,hk,hg=>by omega
 | j,i,m + 1,h,c,k,gv,good,e,hm,s,hk,hg=>by
   rw [Lz7e_eq]
   obtain ⟨a,ea⟩:=s.arg.shape
   rw [List.length_map] at ea
   refine bindV_mk (show aBuiltin Pg h .len [22] [x]=some (.int .i64 l.length,h) by rw [ea];exact len_slc (by kernel_rfl)) ?_
   have out:Jz4a QT m x (bsP pb) gv (.int .i64 (i:Nat)) (.bool false) h:=by
     rw [Jz4a_eq]
     exact i_f (Meet.of (afterL s (by omega) (by omega)))
   by_cases e1:i < l.length
   case neg =>
     refine fS_lss_f (by omega) ?_
     refine g_ft ?_
     refine Meet.of (cast_p (Gzj_eq ..) ?_)
     refine fV_pf ?_
     exact Meet.of out
   refine fS_lss_t (by omega) ?_
   refine g_tt ?_
   by_cases e2:i < 20
   case neg =>
     refine fS_lss_f (by omega) ?_
     refine Meet.of (cast_p (Gzj_eq ..) ?_)
     refine fV_pt ?_
     exact Meet.of out
   obtain ⟨j,rfl⟩:∃ j',j=j' + 1:=⟨j - 1,by omega⟩
   refine fS_lss_t (by omega) ?_
   refine Meet.of (cast_p (Gzj_eq ..) ?_)
   refine fV_pt ?_
   refine Meet.of (cast_p (Jz4a_eq ..) ?_)
   refine i_t ?_
   refine Meet.of (cast_p (Jz4b_eq ..) ?_)
   obtain ⟨r,hr⟩:∃ r,l[i]?=some r:=⟨_,List.getElem?_eq_getElem e1⟩
   have hrv:(l.map Rc.v)[i]?=some r.v:=by rw [List.getElem?_map,hr];rfl
   have ro:=hok r (List.mem_of_getElem? hr)
   obtain ⟨rb,r1,r2,r3⟩:∃ rb,rb < h.next∧x=.slc (some (⟨rb,.row 38,[]⟩,0)) (l.map Rc.v).length∧h.m rb=some (.cells false (.row 38) (.agg (l.map Rc.v))):=by
     rcases s.arg with ⟨_,q⟩ | q
     · rw [q] at hrv;cases hrv
     · exact q
   rw [List.length_map] at r2
   have ix:aIndexAddr Pg 22 x (.int .i64 ((i:Nat):Int))=some (.ptr (some ⟨rb,.row 38,[0 + ((i:Nat):Int).toNat]⟩)):=by
     rw [r2];exact ia_slc _ (by kernel_rfl) (by omega) (by omega)
   refine bindS_mk ix ?_
   refine bindV_mk (ld_mk r3 (by kernel_rfl) (w:=r.v) (by rw [at_nat];exact getV_row hrv)) ?_
   refine bindE (al_at zRc (shRc (r:=Rc.z 0) ⟨by decide,by decide +kernel,by decide,by decide,by decide,by decide,by decide,by decide,by decide,by decide,by decide,by decide,by decide,by decide⟩)) fun h1 u1=>?_
   have n1:=u1.next
   refine bindE (st_at (p:=[]) u1.at_ (by kernel_rfl) rfl (shRc ro) rfl) fun h2 u2=>?_
   have n2:=u2.next
   have q2:KeepsF [] h h2:=(KeepsF.new u1).young u2 (Nat.le_refl _)
   have s2:=s.keep q2 rfl
   have fb:h2.m h.next=some (.cells true (.one 38) r.v):=u2.at_
   -- the next one
   have next:∀ (h':AH) (c':Ca) (gv':V) (good':List Rc),Lw h' x l pb n c' (k + 1) gv' good'→good'.length≤i + 1→Jz4d QT m x (bsP pb) gv' (.int .i64 (i:Nat)) h':=by
     intro h' c' gv' good' s' hg'
     rw [Jz4d_eq]
     refine fS_add_i64 (by omega) (by omega) ?_
     exact Meet.of (listL hok j (i + 1) m h' c' (k + 1) gv' good' (by omega) (by omega) s' (by omega) hg')
   have skip:∀ (h':AH) (c':Ca) (p:V),Lw h' x l pb n c' (k + 1) gv good→Jz4c QT m x (bsP pb) gv (.int .i64 (i:Nat)) p (.bool false) h':=by
     intro h' c' p s'
     rw [Jz4c_eq]
     exact i_f (Meet.of (next h' c' gv good s' (by omega)))
   refine fS_fa (by kernel_rfl) ?_
   refine fV_ld fb (by kernel_rfl) (w:=.int .u8 r.k) rfl ?_
   by_cases e3:r.k=2
   case neg =>
     refine fS_eql_f e3 ?_
     refine g_ft ?_
     refine Meet.of (cast_p (Gzk_eq ..) ?_)
     refine fV_pf ?_
     exact Meet.of (skip h2 c _ ⟨s2.arg,s2.bs,s2.inv,s2.bud.mono (by omega),s2.gd,s2.good⟩)
   refine fS_eql_t e3 ?_
   refine g_tt ?_
   refine fV_ld fb (by kernel_rfl) (w:=r.v) rfl ?_
   obtain ⟨c1,c2,c3,c4⟩:=changeD_any s2.inv s2.bud ro e3
   refine s2.change (by omega) ro e3 fun h3 q3 k3=>?_
   have n3:=q3.next
   have s3:Lw h3 x l pb n (c.changeD r).2 (k + 1) gv good:=⟨s2.arg.keep q3,k3,c1,c2,s2.gd.keep q3.own rfl,fun r' hr'=>⟨(s.good r' hr').1,c3 _ (s.good r' hr').2⟩⟩
   by_cases e4:(c.changeD r).1=0
   case neg =>
     refine fS_eql_f e4 ?_
     refine Meet.of (cast_p (Gzk_eq ..) ?_)
     refine fV_pt ?_
     exact Meet.of (skip h3 _ _ s3)
   obtain ⟨gr,to⟩:=c4 e4
   refine fS_eql_t e4 ?_
   refine Meet.of (cast_p (Gzk_eq ..) ?_)
   refine fV_pt ?_
   refine Meet.of (cast_p (Jz4c_eq ..) ?_)
   refine i_t ?_
   have fb3:h3.m h.next=some (.cells true (.one 38) r.v):=(ownPart_own (q3.own.at (ownPart_at fb rfl) (show h.next < h2.next by omega) rfl)).2
   refine fV_ld fb3 (by kernel_rfl) (w:=r.v) rfl ?_
   refine bindE (bs1_at (e:=38) (by kernel_rfl) zRc (shRc ro)) fun h4 u4=>?_
   have q4:KeepsF [] h3 h4:=KeepsF.new u4
   have s4:=s3.keep q4 rfl
   have byR:Pg.bytesOf 38≤1000:=by decide +kernel
   obtain ⟨v5,h5,e5,b5,q5⟩:=s4.gd.appO (t:=22) (xt:=22) (by kernel_rfl) (y:=.slc (some (⟨h3.next,.row 38,[]⟩,0)) 1) (elems_row u4.at_) (by simp) (Nat.le_trans (Nat.mul_le_mul (show _≤1000 by rw [List.length_map];show good.length + 1≤_;omega) byR) (by decide))
   refine bindV_mk e5 ?_
   refine Meet.of (next h5 _ v5 (good++[r]) ⟨s4.arg.keep q5,s4.bs.keep q5.own rfl,s4.inv,s4.bud,by rw [List.map_append];exact b5,fun r' hr'=>?_⟩ (by simp;omega))
   rcases List.mem_append.1 hr' with q | q
   · exact s4.good r' q
   · rw [List.mem_singleton] at q;subst q;exact ⟨gr,to⟩
theorem baseFullLaw (hok:∀ r∈l,r.ok) {h:AH} (ha:RowF 38 h x (l.map Rc.v)):ACalls Pg 3 [x] h QT:=by
 refine C3 _ _ _ ?_
 refine callOQ (T:=TDs) (freshP (fr:=8) ⟨by decide,by decide⟩ (ownPart_all h)) (fun e hs q=>by obtain ⟨_,_,_,_,_,q1,_⟩:=q;exact q1) fun e h1 q1 q=>?_
 obtain ⟨pd,pb,n,d,rfl,_,e1,hd,k1⟩:=q
 refine ⟨_,rfl,?_⟩
 obtain ⟨i1,b1⟩:=inv_new hd (seen_ok k1) (pd:=pd) (fr:=8) ⟨by decide,by decide⟩ (by obtain ⟨lv,ka⟩:=k1.ca;exact ka.ok)
 refine bindS_mk (show aExtract (.tup [dkP pd,bsP pb]) 0=some _ from rfl) ?_
 refine bindS_mk (show aExtract (.tup [dkP pd,bsP pb]) 1=some (bsP pb) from rfl) ?_
 refine bindS_mk (nnBs pb) ?_
 refine i_f ?_
 refine Meet.of (cast_p (Jz49_eq ..) ?_)
 refine ⟨21,Meet.of ?_⟩
 exact listL (x:=x) (l:=l) (pb:=pb) (n:=n) hok 20 0 21 h1 _ 0 (.slc none 0) [] rfl (by omega) ⟨ha.keep q1,k1,i1,b1,.inl ⟨rfl,rfl⟩,fun r hr=>by cases hr⟩ (by omega) (by simp)
end
end Go.Proofs.Ytdfgfbammkojoaa.Sh
namespace Go.Proofs.Ytdfgfbammkojoaa.Op
open Go Go.Ab Go.RowKit
open Go.Proofs.Ytdfgfbammkojoaa.Ru (Pg okP)
open Go.Proofs.Ytdfgfbammkojoaa.Sh
open Go.Proofs.Ytdfgfbammkojoaa.Rcn
set_option maxRecDepth 10000
variable {H:Type} {enc:TypeId × Value→H} {W:World}
theorem cells_take {a:Addr} {c:Array Value} {elem:TypeId} {fr:Nat × Nat} (hb:W.heap[a.block]?=some (.cells c elem fr)) (hs:a.spot=none) {k n:Nat} (hn:0 < n) {cl:List Value} (h:W.cells? 0 (a.add k) n=some cl) :
   cl=(c.toList.drop (a.off + k)).take n∧a.off + k + n≤c.size:=by
 simp only [World.cells?,Nat.zero_le,if_true] at h
 have hl:cl.length=n:=by simpa using mapM_some_length h
 have hg:∀ j,j < n→W.cell? ((a.add k).add j)=cl[j]?:=fun j hj=>mapM_some_get h j j (by simp [hj])
 have hc:∀ j,j < n→c[a.off + k + j]?=cl[j]?:=by
   intro j hj
   rw [← hg j hj]
   have e1:((a.add k).add j).block=a.block∧((a.add k).add j).off=a.off + k + j∧((a.add k).add j).spot=none:=by
     unfold Addr.add
     by_cases h1:k=0
     · subst h1
       by_cases h2:j=0
       · subst h2;exact ⟨rfl,rfl,hs⟩
       · simp [h2]
     · by_cases h2:j=0
       · subst h2;simp [h1]
       · simp [h1,h2]
   simp only [World.cell?,e1.1,e1.2.1,e1.2.2,hb,Option.isSome_none]
   simp
 have hsz:a.off + k + n≤c.size:=by
   have:=hc (n - 1) (by omega)
   rw [List.getElem?_eq_getElem (by omega)] at this
   have:=(Array.getElem?_eq_some_iff.1 this).1
   omega
 refine ⟨?_,hsz⟩
 apply List.ext_getElem?
 intro j
 by_cases hj:j < n
 · rw [← hc j hj,List.getElem?_take,if_pos hj,List.getElem?_drop];simp
 · rw [List.getElem?_eq_none (by omega),List.getElem?_eq_none (by simp;omega)]
theorem rowsC {ι:Names} {c:List Value} {o C:Nat} {X:Nat→V}:∀ (n i:Nat),(∀ k,k < n→relC Pg ι (X (i + k)) ((c.drop (o + C * (i + k))).take C))→relCs Pg ι ((List.range' i n).map X) ((c.drop (o + C * i)).take (C * n))
 | 0,i,h=>by simp [relCs]
 | n + 1,i,h=>by
   rw [List.range'_succ,List.map_cons]
   simp only [relCs]
   refine ⟨_,_,h 0 (by omega),rowsC n (i + 1) (fun k hk=>by have:=h (k + 1) (by omega);rw [show i + 1 + k=i + (k + 1) by omega];exact this),?_⟩
   rw [Nat.add_zero]
   have:C * (n + 1)=C + C * n:=by rw [Nat.mul_add,Nat.mul_one,Nat.add_comm]
   rw [this,List.take_add,List.drop_drop]
   congr 2
   rw [Nat.mul_add,Nat.mul_one]
   congr 1
   omega
theorem weightsAll_mem {e:TypeId}:∀ {ds:List (DataW H)} {d:DataW H} {n:Nat},d∈ds→n∈d.weights Pg e→n∈DataW.weightsAll Pg e ds
 | x :: ds,d,n,hd,hn=>by
   simp only [DataW.weightsAll,List.mem_append]
   rcases List.mem_cons.1 hd with rfl | hd
   · exact .inl hn
   · exact .inr (weightsAll_mem hd hn)
theorem shapes_all {e:TypeId} {X:Nat→V} (h:∀ i,hasShape Pg (X i) e=true):∀ l:List Nat,shapesAll Pg (l.map X) e=true
 | []=>rfl
 | a :: l=>by simp only [List.map_cons,shapesAll,h,Bool.true_and];exact shapes_all h l
theorem open_row {t e:TypeId} {dd M:Nat} (ut:Pg.underlying t=some (.slice e)) (hf:flatTy Pg dd e=true) (hce:0 < Pg.cellsOf e) {z:V} (hz:hasShape Pg z e=true) {base:Nat} {v:Value} {d:DataW H} {ps:List MemPlace} (hv:Value.okWide Pg W .any base t v)
   (h:DataW.Trod enc Pg W 0 (fun _=>true) true t v d ps) (hw:∀ n∈d.weights Pg t,n≤M) :
   ∃ (xs:List V) (hh:AH) (x:V) (ι:Names),(∀ y∈xs,hasShape Pg y e=true∧good M y=true)∧RowF e hh x xs∧Fits Pg ⟨fun b=>b < W.heap.size,W⟩ ι hh W∧rel Pg ι x v:=by
 obtain ⟨fuel,h⟩:=h
 simp only [Value.okWide,ut,Cell.okWide] at hv
 generalize hC:Pg.cellsOf e=C at *
 rcases DataW.trod_slice ut h with ⟨hc,_⟩ | ⟨a,len,cap,elems,rest,n,rfl,hc,hy,_,hlc,hcm,hel,hcell,hsp,_⟩
 · have ev:v=.slice none 0 0:=by
     cases v <;> simp only [Cell.ok,ut] at hv <;> first | (exact hv.elim) | (simpa [Value.cells] using hc)
   subst ev
   exact ⟨[],AH0,.slc none 0,fun _=>none,(fun e he=>by cases he),.inl ⟨rfl,rfl⟩,⟨fun n o hm=>by simp [AH0] at hm,fun _ _=>rfl,fun n n' o o' L L' hm=>by simp [AH0] at hm,fun n o L hm=>by simp [AH0] at hm,fun b hb=>⟨rfl,hb⟩,rfl,rfl,rfl,Nat.le_refl _⟩,.inr ⟨rfl,by simp [relC,Value.cells]⟩⟩
 · have ev:v=.slice (some a) len cap:=by
     cases v <;> simp only [Cell.ok,ut] at hv <;> first | (exact hv.elim) | (simpa [Value.cells] using hc)
   subst ev
   simp only [Cell.ok,ut] at hv
   obtain ⟨_,_,_,hspot,row,cells,hshape,_⟩:=hv
   obtain ⟨c,elem,fr,hb⟩:∃ c elem fr,W.heap[a.block]?=some (.cells c elem fr):=by
     unfold World.shape? at hshape
     split at hshape
     · rename_i c elem fr hb;exact ⟨c,elem,fr,hb⟩
     · cases hshape
   obtain ⟨hr1,hr2⟩:=hsp rfl
   have hd:d=.slice (elems.map (·.1)) (rest.map (·.1)):=by simpa using congrArg Prod.fst hy
   have one:∀ i,∃ y:V,hasShape Pg y e=true∧(i < len→good M y=true∧∀ ι:Names,relC Pg ι y ((c.toList.drop (a.off + C * i)).take C)):=by
     intro i
     by_cases hi:i < len
     · have e1:=hcell i hi
       rw [List.getElem?_eq_getElem (by omega),hC] at e1
       obtain ⟨cl,q1,q2⟩:=Option.bind_eq_some_iff.1 e1
       obtain ⟨t1,_⟩:=cells_take hb hspot hce q1
       obtain ⟨⟨y,g1,g2,g3⟩,_⟩:=trod_tree okP.lay _ dd e _ _ hf q2 (M:=M) (fun n hn=>hw n (by
         rw [hd]
         simp only [DataW.weights,ut,List.mem_cons,List.mem_append]
         exact .inr (.inl (weightsAll_mem (List.mem_map.2 ⟨elems[i],List.getElem_mem _,rfl⟩) hn))))
       rw [t1,show i * C=C * i from Nat.mul_comm _ _] at g3
       exact ⟨y,g1,fun _=>⟨g2,g3⟩⟩
     · exact ⟨z,hz,fun h=>absurd h hi⟩
   obtain ⟨X,one⟩:=Classical.axiomOfChoice one
   obtain ⟨off,hoff,hoff2⟩:∃ off,(0 < cap→off=a.off)∧off + C * cap≤c.size:=by
     by_cases h0:cap=0
     · exact ⟨0,fun h=>by omega,by rw [h0];omega⟩
     · refine ⟨a.off,fun _=>rfl,?_⟩
       have last:∃ (y:DataW H × List MemPlace),(W.cells? 0 (a.add ((cap - 1) * Pg.cellsOf e)) (Pg.cellsOf e)).bind (DataW.trod enc Pg W 0 (fun _=>true) true n e)=some y:=by
         by_cases hl:cap - 1 < len
         · exact ⟨_,(hcell _ hl).trans (List.getElem?_eq_getElem (by omega))⟩
         · have e:=hr2 (cap - 1 - len) (by omega)
           rw [show len + (cap - 1 - len)=cap - 1 by omega] at e
           exact ⟨_,e.trans (List.getElem?_eq_getElem (by omega))⟩
       obtain ⟨y,hy⟩:=last
       rw [hC] at hy
       obtain ⟨cl,q1,_⟩:=Option.bind_eq_some_iff.1 hy
       have:=(cells_take hb hspot hce q1).2
       have e2:C * cap=(cap - 1) * C + C:=by
         obtain ⟨m,rfl⟩:∃ m,cap=m + 1:=⟨cap - 1,by omega⟩
         rw [Nat.add_sub_cancel,Nat.mul_add,Nat.mul_one,Nat.mul_comm]
       omega
   let xs:List V:=(List.range' 0 len).map X
   let Lo:Go.Ab.Loc:=⟨a.block,off,c.size,.row e⟩
   let hh:AH:=⟨1,fun n=>if n=0 then some (.cells false (.row e) (.agg xs)) else none⟩
   let ι:Names:=fun n=>if n=0 then some Lo else none
   have hxs:xs.length=len:=by simp [xs]
   have hrows:relCs Pg ι xs ((c.toList.drop off).take (C * len)):=by
     by_cases h0:len=0
     · have:xs=[]:=List.length_eq_zero_iff.1 (by omega)
       rw [this,h0];simp [relCs]
     · have:=rowsC (ι:=ι) (c:=c.toList) (o:=off) (C:=C) (X:=X) len 0 (fun k hk=>by
         rw [hoff (by omega),Nat.zero_add]
         exact ((one k).2 hk).2 ι)
       simpa using this
   have hlc2:C * len≤C * cap:=Nat.mul_le_mul_left _ hlc
   have hobj:objR Pg ι W Lo (.cells false (.row e) (.agg xs)):=by
     refine ⟨rfl,shapes_all (fun i=>(one i).1) _,c.toList.take off,(c.toList.drop off).take (C * len),c.toList.drop (off + C * len),elem,fr,?_,(by show (c.toList.take off).length=off;simp;omega),?_,?_,fun h=>by cases h⟩
     · rw [hb]
       have:c.toList.take off++(c.toList.drop off).take (C * len)++c.toList.drop (off + C * len)=c.toList:=by
         rw [List.append_assoc,← List.drop_drop,List.take_append_drop,List.take_append_drop]
       rw [this]
     · show _=c.size
       simp;omega
     · simp only [relC];exact hrows
   refine ⟨xs,hh,.slc (some (⟨0,.row e,[]⟩,0)) len,ι,?_,?_,?_,?_⟩
   · intro y hy
     obtain ⟨i,hi,rfl⟩:=List.mem_map.1 hy
     have hi':i < len:=by rw [List.mem_range'] at hi;omega
     exact ⟨(one i).1,((one i).2 hi').1⟩
   · exact .inr ⟨0,by show 0 < 1;omega,by rw [hxs],rfl⟩
   · refine ⟨fun n o hm=>?_,fun n hn=>?_,fun n n' o o' L L' hm _ _ ho=>?_,fun n o L hm ho=>?_,fun b hb=>⟨rfl,hb⟩,rfl,rfl,rfl,Nat.le_refl _⟩
     · by_cases e0:n=0
       · subst e0
         cases hm
         exact ⟨Lo,rfl,hobj⟩
       · have hm:(if n=0 then some (AO.cells false (.row e) (.agg xs)) else none)=some o:=hm
         rw [if_neg e0] at hm;cases hm
     · have hn:1≤n:=hn
       show (if n=0 then _ else none)=none
       rw [if_neg (by omega)]
     all_goals
       exfalso
       have hm:(if n=0 then some (AO.cells false (.row e) (.agg xs)) else none)=some o:=hm
       by_cases e0:n=0
       · rw [if_pos e0] at hm;cases hm;cases ho
       · rw [if_neg e0] at hm;cases hm
   · refine .inr ⟨rfl,?_⟩
     simp only [relC,Value.cells]
     refine ⟨a,cap,hlc,⟨Lo,rfl⟩,fun h0=>⟨Lo,0,e,rfl,rfl,rfl,?_,?_⟩,rfl⟩
     · have hab:a=⟨a.block,a.off,none⟩:=by cases a;simp at hspot;rw [hspot]
       rw [hab];simp [Lo,hoff h0]
     · rw [hC,Nat.zero_add]
       show off + cap * C≤c.size
       rw [Nat.mul_comm];exact hoff2
theorem flat51:flatTy Pg 10 38=true:=by kernel_rfl
theorem rc_of {v:V} {M:Nat} (hM:M < 140737488355328) (hs:hasShape Pg v 38=true) (hg:good M v=true):∃ r:Rc,v=r.v∧r.ok:=by
 have k5:kindT Pg 5=some .u8:=by kernel_rfl
 have k40:kindT Pg 27=some .u16:=by kernel_rfl
 have k45:kindT Pg 32=some .u32:=by kernel_rfl
 have b4:boolT Pg 4=true:=by kernel_rfl
 have s9:(match ul Pg 9 with | some .string=>true | _=>false)=true:=by kernel_rfl
 obtain ⟨l,rfl,q1⟩:=inv_struct (ts:=[5,29,31,32,34,9,5,36]) (by kernel_rfl) hs
 obtain ⟨x0,l,rfl,h0,q2⟩:=inv_cons q1
 obtain ⟨x1,l,rfl,h1,q3⟩:=inv_cons q2
 obtain ⟨x2,l,rfl,h2,q4⟩:=inv_cons q3
 obtain ⟨x3,l,rfl,h3,q5⟩:=inv_cons q4
 obtain ⟨x4,l,rfl,h4,q6⟩:=inv_cons q5
 obtain ⟨x5,l,rfl,h5,q7⟩:=inv_cons q6
 obtain ⟨x6,l,rfl,h6,q8⟩:=inv_cons q7
 obtain ⟨x7,l,rfl,h7,q9⟩:=inv_cons q8
 obtain rfl:=inv_nil q9
 obtain ⟨k,rfl⟩:=inv_int k5 h0
 obtain ⟨l,rfl,q10⟩:=inv_struct (ts:=[4,27]) (by kernel_rfl) h1
 obtain ⟨y0,l,rfl,g0,q11⟩:=inv_cons q10
 obtain ⟨y1,l,rfl,g1,q12⟩:=inv_cons q11
 obtain rfl:=inv_nil q12
 obtain ⟨undo,rfl⟩:=inv_bool b4 g0
 obtain ⟨no,rfl⟩:=inv_int k40 g1
 obtain ⟨ims,rfl,hlen,hims⟩:=inv_arr (n:=224) (e:=5) (by kernel_rfl) h2
 obtain ⟨ts,rfl⟩:=inv_int k45 h3
 obtain ⟨l,rfl,q13⟩:=inv_struct (ts:=[27,5]) (by kernel_rfl) h4
 obtain ⟨y0,l,rfl,g0,q14⟩:=inv_cons q13
 obtain ⟨y1,l,rfl,g1,q15⟩:=inv_cons q14
 obtain rfl:=inv_nil q15
 obtain ⟨pp,rfl⟩:=inv_int k40 g0
 obtain ⟨ps,rfl⟩:=inv_int k5 g1
 obtain ⟨dl,rfl⟩:=inv_str s9 h5
 obtain ⟨sl,rfl⟩:=inv_int k5 h6
 obtain ⟨l,rfl,q16⟩:=inv_struct (ts:=[4,27,32,34,9]) (by kernel_rfl) h7
 obtain ⟨y0,l,rfl,g0,q17⟩:=inv_cons q16
 obtain ⟨y1,l,rfl,g1,q18⟩:=inv_cons q17
 obtain ⟨y2,l,rfl,g2,q19⟩:=inv_cons q18
 obtain ⟨y3,l,rfl,g3,q20⟩:=inv_cons q19
 obtain ⟨y4,l,rfl,g4,q21⟩:=inv_cons q20
 obtain rfl:=inv_nil q21
 obtain ⟨live,rfl⟩:=inv_bool b4 g0
 obtain ⟨op,rfl⟩:=inv_int k40 g1
 obtain ⟨ots,rfl⟩:=inv_int k45 g2
 obtain ⟨l,rfl,q22⟩:=inv_struct (ts:=[27,5]) (by kernel_rfl) g3
 obtain ⟨y0,l,rfl,g5,q23⟩:=inv_cons q22
 obtain ⟨y1,l,rfl,g6,q24⟩:=inv_cons q23
 obtain rfl:=inv_nil q24
 obtain ⟨onp,rfl⟩:=inv_int k40 g5
 obtain ⟨ons,rfl⟩:=inv_int k5 g6
 obtain ⟨od,rfl⟩:=inv_str s9 g4
 simp only [good,goods,Bool.and_eq_true,Bool.and_true,decide_eq_true_eq,true_and,and_true] at hg
 obtain ⟨gk,gno,gim,gts,⟨gpp,gps⟩,gdl,gsl,gop,gots,⟨gonp,gons⟩,god⟩:=hg
 obtain ⟨ns,rfl,hns⟩:=inv_ints k5 hims gim
 refine ⟨⟨k,undo,no,ns,ts,pp,ps,dl,sl,live,op,ots,onp,ons,od⟩,rfl,?_⟩
 exact ⟨by simpa using hlen,fun x hx=>wf_u8 (hns x hx),wf_u8 gk,wf_u16 gno,wf_u32 gts,wf_u16 gpp,wf_u8 gps,by show dl.length < _;omega,wf_u8 gsl,wf_u16 gop,wf_u32 gots,wf_u16 gonp,wf_u8 gons,by show od.length < _;omega⟩
theorem uRecs:Pg.underlying 22=some (.slice 38):=by kernel_rfl
theorem open_recs {base:Nat} {v:Value} {d:DataW H} {ps:List MemPlace} (hv:Value.okWide Pg W .any base 22 v)
   (h:DataW.Trod enc Pg W 0 (fun _=>true) true 22 v d ps) (hw:∀ n∈d.weights Pg 22,n≤reachBytes) :
   ∃ (l:List Rc) (hh:AH) (x:V) (ι:Names),(∀ r∈l,r.ok)∧RowF 38 hh x (l.map Rc.v)∧Fits Pg ⟨fun b=>b < W.heap.size,W⟩ ι hh W∧rel Pg ι x v:=by
 obtain ⟨xs,hh,x,ι,h1,h2,h3,h4⟩:=open_row uRecs flat51 (by decide +kernel) (z:=(Rc.z 0).v) (shRc ⟨by decide,by decide +kernel,by decide,by decide,by decide,by decide,by decide,by decide,by decide,by decide,by decide,by decide,by decide,by decide⟩) hv h hw
 have:∃ l:List Rc,(∀ r∈l,r.ok)∧xs=l.map Rc.v:=by
   clear h2
   induction xs with
   | nil=>exact ⟨[],(fun _ h=>nomatch h),rfl⟩
   | cons y xs ih =>
     obtain ⟨l,g1,g2⟩:=ih fun z hz=>h1 z (List.mem_cons_of_mem _ hz)
     obtain ⟨k1,k2⟩:=h1 y List.mem_cons_self
     obtain ⟨r,rfl,ro⟩:=rc_of (M:=reachBytes) (by decide) k1 k2
     refine ⟨r :: l,fun r' hr'=>?_,by rw [g2];rfl⟩
     rcases List.mem_cons.1 hr' with rfl | q
     · exact ro
     · exact g1 r' q
 obtain ⟨l,g1,rfl⟩:=this
 exact ⟨l,hh,x,ι,g1,h2,h3,h4⟩
end Go.Proofs.Ytdfgfbammkojoaa.Op
