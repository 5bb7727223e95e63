import Derived.Test.YtcglbpjpbjaecaaGreatB16
import Derived.Test.YtcglbpjpbjaecaaGreatB06
import Derived.Test.YtcglbpjpbjaecaaGreatB14
import Derived.Test.YtcglbpjpbjaecaaGreatB13
import Derived.RangeFuncLeaves
import Derived.RangeFuncRecord
import Derived.Shelf.GgSortFunc.Tiny
import Derived.Test.YtcglbpjpbjaecaaGreatB07
import Derived.Test.YtcglbpjpbjaecaaGreatB08
import Derived.Test.YtcglbpjpbjaecaaGreatB15
set_option linter.unusedVariables false
set_option linter.unusedSimpArgs false
namespace Go.Proofs.YtcglbpjpbjaecaaGreat.Sh
open Go Go.Ab Go.RowKit
open Go.Proofs.YtcglbpjpbjaecaaGreat.Ru (Pg okP)
open Go.Proofs.YtcglbpjpbjaecaaGreat.Sj (cutAt cutP cut_idx idxB)
set_option maxRecDepth 10000
set_option linter.unusedSectionVars false
theorem cut_lns (s:List UInt8):((cutAt 10 s).2.2=true∧lnsL [] s=((cutAt 10 s).1 :: (lnsL [] (cutAt 10 s).2.1).1,(lnsL [] (cutAt 10 s).2.1).2))∨((cutAt 10 s).2.2=false∧lnsL [] s=([],s)∧(cutAt 10 s).1=s):=by
 have key:∀ (s w:List UInt8),((cutAt 10 s).2.2=true∧lnsL w s=((w++(cutAt 10 s).1) :: (lnsL [] (cutAt 10 s).2.1).1,(lnsL [] (cutAt 10 s).2.1).2))∨((cutAt 10 s).2.2=false∧lnsL w s=([],w++s)∧(cutAt 10 s).1=s):=by
   intro s
   induction s with
   | nil=>intro w;right;simp [cutAt,lnsL]
   | cons b s ih =>
     intro w
     by_cases hb:b=10
     · subst hb
       left;simp [cutAt,lnsL]
     · rcases ih (w++[b]) with ⟨h1,h2⟩ | ⟨h1,h2,h3⟩
       · left;simp [cutAt,lnsL,hb,h1,h2]
       · right;simp [cutAt,lnsL,hb,h1,h2,h3]
 simpa using key s []
theorem cut_rest (s:List UInt8) (hs:s≠[]):(cutAt 10 s).2.1.length < s.length:=by
 cases s with
 | nil=>exact absurd rfl hs
 | cons b s =>
   have:=cutAt_len 10 s
   unfold cutAt
   split
   · simp
   · simp;omega
def ParseEnd (r:List Ev × Nat × Nat) (h0:AH):AEnd→AH→Prop:=fun ed h'=>∃ y,ed=.ret (.tup [y,.int .i64 r.2.1,.int .i64 r.2.2])∧ScrB h' y r.1∧h0.next≤h'.next∧∀ n,n < h0.next→h'.m n=h0.m n
structure PM (h0 h:AH) (y:V) (out:List Ev):Prop where
 row:∃ ys,RowB 73 h y ys∧EvsAt h ys out
 y:Young 73 h0.next y
 nx:h0.next≤h.next
 fr:∀ n,n < h0.next→h.m n=h0.m n
theorem PM.keep {h0 h h':AH} {y:V} {out:List Ev} (p:PM h0 h y out) (hn:h.next≤h'.next) (hk:∀ n,n < h.next→h'.m n=h.m n):PM h0 h' y out:=by
 obtain ⟨ys,r,e⟩:=p.row
 refine ⟨⟨ys,?_,e.keep hn hk⟩,p.y,Nat.le_trans p.nx hn,fun n q=>(hk n (by have:=p.nx;omega)).trans (p.fr n q)⟩
 rcases r with ⟨rfl,q⟩ | ⟨n,q1,rfl,q3⟩
 · exact .inl ⟨rfl,q⟩
 · exact .inr ⟨n,by omega,rfl,(hk n q1).trans q3⟩
theorem PM.scr {h0 h:AH} {y:V} {out:List Ev} (p:PM h0 h y out):ScrB h y out:=by
 obtain ⟨ys,r,e⟩:=p.row
 exact scrB_row r e
theorem PM.nil (h0:AH):PM h0 h0 (.slc none 0) []:=⟨⟨[],.inl ⟨rfl,rfl⟩,rfl,fun i e h=>by simp at h⟩,(fun k _ len q=>by cases q),Nat.le_refl _,fun n _=>rfl⟩
theorem PM.app {h0 h h1:AH} {y k:V} {out:List Ev} {e:Ev} (p:PM h0 h y out) (hk:KeepB h k e.keep) (u:New h h1 (.cells true (.row 73) (.agg [evV e k]))) (hl:out.length≤2100) :
   ∃ y' h2,aBuiltin Pg h1 .append [84,84] [y,.slc (some (⟨h.next,.row 73,[]⟩,0)) 1]=some (y',h2)∧PM h0 h2 y' (out++[e]):=by
 have n1:=u.next
 have k1:∀ n,n < h.next→h1.m n=h.m n:=fun n q=>u.other n (by omega)
 have p1:=p.keep (h':=h1) (by omega) k1
 have hk1:=hk.keep (h':=h1) (by omega) k1
 obtain ⟨ys,r,ev⟩:=p1.row
 have hyl:ys.length≤2100:=by rw [ev.1];exact hl
 obtain ⟨y',h2,e2,r2,n2,f2,y2⟩:=r.app ap84 (elems_row (by exact u.at_)) (by simp) (by have:=by73;exact Nat.le_trans (Nat.mul_le_mul (show ys.length + 1≤2101 by omega) this) (by decide))
 have t2:∀ n xs,n < h1.next→h1.m n=some (.cells true (.row 4) xs)→h2.m n=h1.m n:=fun n xs q1 q2=>f2 n q1 fun len q=>by
   rcases r with ⟨rfl,_⟩ | ⟨n',g1,rfl,g3⟩
   · cases q
   · simp only [V.slc.injEq,Option.some.injEq,Prod.mk.injEq,PA.mk.injEq] at q
     rw [q.1.1.1,q2] at g3;cases g3
 have nx:=p.nx
 exact ⟨y',h2,e2,⟨_,r2,(ev.keepT (by omega) t2).snoc (hk1.keepT (by omega) t2)⟩,fun n q len=>y2 n (by omega) len,by omega,fun n q=>(f2 n (by omega) (p.y n q)).trans (p1.fr n q)⟩
theorem callE2 {f:FuncId} {args:List V} {h:AH} {R:AEnd→AH→Prop} {K X:V→AH→Prop} (c:ACalls Pg f args h R) (k:∀ e h',R e h'→∃ v,e=.ret v∧K v h'):ACalls Pg f args h (aEnd K X) :=
 c.mono fun e h' q=>by obtain ⟨v,rfl,q2⟩:=k e h' q;exact q2
theorem zn73:∃ z,zeroV Pg 73=some z∧hasShape Pg z 73=true:=⟨_,show zeroV Pg 73=some (evV ev0 (.slc none 0)) by kernel_rfl,s73 ev0 none 0⟩
section
variable {r:List Ev × Nat × Nat} {h0:AH} {s0:List UInt8}
theorem line43 {s:List UInt8} {y:V} {h:AH} {out:List Ev} {n m:Nat} (hs:s.length≤131072) (hne:s≠[]) (hn:1≤n∧n≤2001) (ho:out.length < n) (p:PM h0 h y out) (hr:r=prsL evT (n - 1) (lnsL [] s).1 (lnsL [] s).2 out)
   (cont:∀ y' h',PM h0 h' y' (out++[evT (cutAt 10 s).1])→n + 1≤2001→r=prsL evT n (lnsL [] (cutAt 10 s).2.1).1 (lnsL [] (cutAt 10 s).2.1).2 (out++[evT (cutAt 10 s).1])→Lz40 (ParseEnd r h0) m (.str (cutAt 10 s).2.1) y' (.int .i64 ((n + 1:Nat):Int)) h') :
   Jz33 (ParseEnd r h0) m (.str s) y (.int .i64 n) h:=by
 have hcl:=cutAt_len 10 s
 have nxp:=p.nx
 rw [Jz33_eq]
 refine callS (cutP s 10 (by omega) h) ?_
 refine bindS_mk (show aExtract _ _=some _ from rfl) ?_
 refine bindS_mk (show aExtract _ _=some _ from rfl) ?_
 refine bindS_mk (show aExtract _ _=some _ from rfl) ?_
 refine bindS_mk b_gtr ?_
 refine i_split (fun c=>?_) (fun c=>?_)
 · replace c:=of_decide_eq_true c
   have e1:r=([],n,10):=by
     rcases cut_lns s with ⟨q1,q2⟩ | ⟨q1,q2,q3⟩
     · rw [hr,q2,prsL,if_pos (by omega),show n - 1 + 1=n by omega]
     · rw [hr,q2,prsL,if_neg hne,if_pos (by omega),show n - 1 + 1=n by omega]
   rw [e1]
   exact ⟨_,rfl,.inl ⟨rfl,rfl⟩,p.nx,p.fr⟩
 · replace c:=of_decide_eq_false c
   have hn2:n≤2000:=by omega
   refine Meet.of (cast_p (Jz34_eq _ _ _ _ _ _ _ _) ?_)
   refine callE2 (eventP (cutAt 10 s).1 (by omega) h) ?_
   rintro e h1 ⟨k,rfl,hk,n1,f1⟩
   refine ⟨_,rfl,?_⟩
   refine bindS_mk (show aExtract _ _=some _ from rfl) ?_
   refine bindS_mk (show aExtract _ _=some _ from rfl) ?_
   obtain ⟨a,rfl⟩:=hk.shape
   obtain ⟨z,hz1,hz2⟩:=zn73
   refine bindE (al_at hz1 hz2) fun h2 u2=>?_
   have n2:=u2.next
   refine bindE (st_at (p:=[]) u2.at_ (by kernel_rfl) rfl (s73 _ a _) rfl) fun h3 u3=>?_
   have n3:=u3.next
   have f3:∀ n,n < h1.next→h3.m n=h1.m n:=fun n q=>(u3.other n (by omega)).trans (u2.other n (by omega))
   have p1:=p.keep n1 f1
   have p3:=p1.keep (h':=h3) (by omega) f3
   have hk3:=hk.keep (h':=h3) (by omega) f3
   have bad:lnsL [] s=([],s)∨¬ lnOk evT (cutAt 10 s).1→r=([],n,2):=by
     intro q
     rcases cut_lns s with ⟨q1,q2⟩ | ⟨q1,q2,q3⟩
     · rcases q with q | q
       · rw [q] at q2;cases q2
       · rw [hr,q2,prsL,if_neg (by omega),if_neg q,show n - 1 + 1=n by omega]
     · rw [hr,q2,prsL,if_neg hne,if_neg (by omega),show n - 1 + 1=n by omega]
   have stop:(lnsL [] s=([],s)∨¬ lnOk evT (cutAt 10 s).1)→Jz35 (ParseEnd r h0) m y (.int .i64 n) (.str (cutAt 10 s).2.1) (.ptr (some ⟨h1.next,.one 73,[]⟩)) (.bool true) h3:=by
     intro q
     rw [Jz35_eq]
     refine i_t ?_
     rw [bad q]
     exact ⟨_,rfl,.inl ⟨rfl,rfl⟩,p3.nx,p3.fr⟩
   rcases cut_lns s with ⟨q1,q2⟩ | ⟨q1,q2,q3⟩
   · rw [q1]
     refine bindS_mk u_not ?_
     refine g_ff ?_
     refine bindS_mk u_not ?_
     refine Meet.of (cast_p (Gz15_eq _ _ _ _ _ _ _ _ _) ?_)
     refine bindV_mk p_f ?_
     by_cases ok:lnOk evT (cutAt 10 s).1
     · rw [show (!decide ((evT (cutAt 10 s).1).fine∧(evT (cutAt 10 s).1).txt=(cutAt 10 s).1))=false by rw [decide_eq_true (show _∧_ from ok)];rfl]
       refine Meet.of (cast_p (Jz35_eq _ _ _ _ _ _ _ _) ?_)
       refine i_f ?_
       refine Meet.of (cast_p (Jz36_eq _ _ _ _ _ _ _) ?_)
       refine bindV_mk (ld_mk u3.at_ (by kernel_rfl) rfl) ?_
       refine bindE (bs1_at (e:=73) (by kernel_rfl) hz1 (s73 (evT (cutAt 10 s).1) a _)) fun h4 u4=>?_
       obtain ⟨y',h5,e5,p5⟩:=p3.app hk3 u4 (by omega)
       refine bindV_mk e5 ?_
       refine Meet.of (cast_p (Jz37_eq _ _ _ _ _ _) ?_)
       refine bindS_mk (w_add (wrap_i64 (by omega) (by omega))) ?_
       refine Meet.of (cont y' h5 p5 (by omega) ?_)
       rw [hr,q2,prsL,if_neg (by omega),if_pos ok,show n - 1 + 1=n by omega]
     · rw [show (!decide ((evT (cutAt 10 s).1).fine∧(evT (cutAt 10 s).1).txt=(cutAt 10 s).1))=true by rw [decide_eq_false (show ¬ (_∧_) from ok)];rfl]
       exact Meet.of (stop (.inr ok))
   · rw [q1]
     refine bindS_mk u_not ?_
     refine g_tf ?_
     refine Meet.of (cast_p (Gz15_eq _ _ _ _ _ _ _ _ _) ?_)
     refine bindV_mk p_t ?_
     exact Meet.of (stop (.inl q2))
theorem loop43:∀ (j m n:Nat) (s:List UInt8) (y:V) (h:AH) (out:List Ev),s.length≤j→j < m→s.length≤131072→1≤n∧n≤2001→out.length < n→PM h0 h y out→r=prsL evT (n - 1) (lnsL [] s).1 (lnsL [] s).2 out→Lz40 (ParseEnd r h0) m (.str s) y (.int .i64 n) h
 | j,0,n,s,y,h,out,hj,hm,_,_,_,_,_=>by omega
 | j,m + 1,n,s,y,h,out,hj,hm,hs,hn,ho,p,hr=>by
   rw [Lz40_eq]
   refine bindS_mk t_neq ?_
   by_cases hne:s=[]
   · subst hne
     rw [show (!(([]:List UInt8) == []))=false from rfl]
     refine i_f ?_
     refine Meet.of (cast_p (Jz38_eq _ _ _) ?_)
     have e1:r=(out,0,0):=by rw [hr];rfl
     rw [e1]
     exact ⟨y,rfl,p.scr,p.nx,p.fr⟩
   · rw [show (!(s == ([]:List UInt8)))=true by rw [beq_eq_false_iff_ne.2 hne];rfl]
     refine i_t ?_
     have hlt:=cut_rest s hne
     refine Meet.of (line43 hs hne hn ho p hr fun y' h' p' hn' hr'=>?_)
     match j with
     | 0=>exact absurd (List.length_eq_zero_iff.1 (by omega)) hne
     | j + 1=>exact loop43 j m (n + 1) _ y' h' _ (by omega) (by omega) (by omega) ⟨by omega,hn'⟩ (by simp;omega) p' hr'
end
theorem parseP (s:List UInt8) (h0:AH):ACalls Pg 43 [.str s] h0 (ParseEnd (parT evT s) h0):=by
 refine C43 _ _ _ ?_
 refine bindV_mk (len_str (by kernel_rfl)) ?_
 refine bindS_mk b_gtr ?_
 refine i_split (fun c=>?_) (fun c=>?_)
 · replace c:=of_decide_eq_true c
   rw [show parT evT s=([],0,10) from if_pos (by omega)]
   exact ⟨_,rfl,.inl ⟨rfl,rfl⟩,Nat.le_refl _,fun _ _=>rfl⟩
 · replace c:=of_decide_eq_false c
   refine Meet.of (cast_p (Jz32_eq _ _ _) ?_)
   exact ⟨s.length + 1,Meet.of (loop43 s.length (s.length + 1) 1 s _ _ [] (Nat.le_refl _) (by omega) (by omega) (by omega) (by simp) (PM.nil h0) (if_neg (by omega)))⟩
end Go.Proofs.YtcglbpjpbjaecaaGreat.Sh
namespace Go.Proofs.YtcglbpjpbjaecaaGreat.Sh
open Go Go.Ab Go.RowKit
open Go.Proofs.YtcglbpjpbjaecaaGreat.Ru (Pg okP)
set_option maxRecDepth 10000
set_option linter.unusedSectionVars false
theorem ap337:apOk Pg 337 337 9=true:=by kernel_rfl
theorem by9:Pg.bytesOf 9≤1000:=by decide +kernel
def WdsB (h0 h:AH) (y:V) (l:List (List UInt8)):Prop:=∃ n,h0.next≤n∧n < h.next∧y=.slc (some (⟨n,.row 9,[]⟩,0)) l.length∧h.m n=some (.cells true (.row 9) (.agg (l.map .str)))
theorem WdsB.keep {h0 h h':AH} {y:V} {l:List (List UInt8)} (b:WdsB h0 h y l) (hn:h.next≤h'.next) (hk:∀ n,n < h.next→h'.m n=h.m n):WdsB h0 h' y l:=by
 obtain ⟨n,a,b,c,d⟩:=b
 exact ⟨n,a,by omega,c,(hk n b).trans d⟩
structure WM (h0 h:AH) (y:V) (l:List (List UInt8)):Prop where
 row:RowB 9 h y (l.map .str)
 y:Young 9 h0.next y
 nx:h0.next≤h.next
 fr:∀ n,n < h0.next→h.m n=h0.m n
theorem WM.app {h0 h h1:AH} {y:V} {l:List (List UInt8)} {w:List UInt8} (p:WM h0 h y l) (u:New h h1 (.cells true (.row 9) (.agg [.str w]))) (hl:l.length≤200000) :
   ∃ y' h2,aBuiltin Pg h1 .append [337,337] [y,.slc (some (⟨h.next,.row 9,[]⟩,0)) 1]=some (y',h2)∧WM h0 h2 y' (l++[w]):=by
 have n1:=u.next
 have nx:=p.nx
 have r1:RowB 9 h1 y (l.map .str):=by
   rcases p.row with ⟨rfl,q⟩ | ⟨n,q1,rfl,q3⟩
   · exact .inl ⟨rfl,q⟩
   · exact .inr ⟨n,by omega,rfl,(u.other n (by omega)).trans q3⟩
 obtain ⟨y',h2,e2,r2,n2,f2,y2⟩:=r1.app ap337 (elems_row (by exact u.at_)) (by simp) (by have:=by9;exact Nat.le_trans (Nat.mul_le_mul (show (l.map V.str).length + [V.str w].length≤200001 by simp;omega) this) (by decide))
 refine ⟨y',h2,e2,by rw [List.map_append];exact r2,fun n q len=>y2 n (by omega) len,by omega,fun n q=>(f2 n (by omega) (p.y n q)).trans ((u.other n (by omega)).trans (p.fr n q))⟩
section
variable {h0:AH} {s:List UInt8}
end
end Go.Proofs.YtcglbpjpbjaecaaGreat.Sh
namespace Go.Proofs.YtcglbpjpbjaecaaGreat.Sh
open Go Go.Ab Go.RowKit
open Go.Proofs.YtcglbpjpbjaecaaGreat.Ru (Pg okP)
set_option maxRecDepth 10000
set_option linter.unusedSectionVars false
def Wds (h:AH) (y:V) (l:List (List UInt8)):Prop:=∃ n,n < h.next∧y=.slc (some (⟨n,.row 9,[]⟩,0)) l.length∧h.m n=some (.cells true (.row 9) (.agg (l.map .str)))
theorem WdsB.any {h0 h:AH} {y:V} {l:List (List UInt8)} (b:WdsB h0 h y l):Wds h y l:=by
 obtain ⟨n,_,b,c,d⟩:=b
 exact ⟨n,b,c,d⟩
theorem Wds.keep {h h':AH} {y:V} {l:List (List UInt8)} (b:Wds h y l) (hn:h.next≤h'.next) (hk:∀ n,n < h.next→h'.m n=h.m n):Wds h' y l:=by
 obtain ⟨n,b,c,d⟩:=b
 exact ⟨n,by omega,c,(hk n b).trans d⟩
section
variable {h:AH} {l:List (List UInt8)} {q:AEnd→AH→Prop} {p:Nat}
end
end Go.Proofs.YtcglbpjpbjaecaaGreat.Sh
namespace Go.Proofs.YtcglbpjpbjaecaaGreat.Sh
open Go Go.Ab Go.RowKit
open Go.Proofs.YtcglbpjpbjaecaaGreat.Ru (Pg okP)
set_option maxRecDepth 10000
set_option linter.unusedSectionVars false
structure GM (e:Nat) (h0 h:AH) (y:V) (xs:List V):Prop where
 row:RowB e h y xs
 y:Young e h0.next y
 nx:h0.next≤h.next
 fr:∀ n,n < h0.next→h.m n=h0.m n
theorem GM.nil (e:Nat) (h0:AH):GM e h0 h0 (.slc none 0) []:=⟨.inl ⟨rfl,rfl⟩,(fun k _ len q=>by cases q),Nat.le_refl _,fun _ _=>rfl⟩
theorem GM.keep {e:Nat} {h0 h h':AH} {y:V} {xs:List V} (p:GM e h0 h y xs) (hn:h.next≤h'.next) (hk:∀ n,n < h.next→h'.m n=h.m n):GM e h0 h' y xs:=by
 refine ⟨?_,p.y,Nat.le_trans p.nx hn,fun n q=>(hk n (by have:=p.nx;omega)).trans (p.fr n q)⟩
 rcases p.row with ⟨rfl,q⟩ | ⟨n,q1,rfl,q3⟩
 · exact .inl ⟨rfl,q⟩
 · exact .inr ⟨n,by omega,rfl,(hk n q1).trans q3⟩
theorem GM.app {e t:Nat} {h0 h h1:AH} {y:V} {xs ws:List V} (p:GM e h0 h y xs) (u:New h h1 (.cells true (.row e) (.agg ws))) (hc:apOk Pg t t e=true) (hw:ws≠[]) (hl:(xs.length + ws.length) * Pg.bytesOf e≤140737488355328) :
   ∃ y' h2,aBuiltin Pg h1 .append [t,t] [y,.slc (some (⟨h.next,.row e,[]⟩,0)) ws.length]=some (y',h2)∧GM e h0 h2 y' (xs++ws):=by
 have n1:=u.next
 have p1:=p.keep (h':=h1) (by omega) fun n q=>u.other n (by omega)
 have nx:=p.nx
 obtain ⟨y',h2,e2,r2,n2,f2,y2⟩:=p1.row.app hc (elems_row (by exact u.at_)) hw hl
 exact ⟨y',h2,e2,r2,fun n q len=>y2 n (by omega) len,by omega,fun n q=>(f2 n (by omega) (p.y n q)).trans (p1.fr n q)⟩
section
variable {h h0:AH} {l:List (List UInt8)} {Q:AEnd→AH→Prop} {p m i k:Nat} {y x x52 x53:V}
end
end Go.Proofs.YtcglbpjpbjaecaaGreat.Sh
namespace Go.Proofs.YtcglbpjpbjaecaaGreat.Sh
open Go Go.Ab Go.RowKit
open Go.Proofs.YtcglbpjpbjaecaaGreat.Ru (Pg okP)
set_option maxRecDepth 10000
set_option linter.unusedSectionVars false
end Go.Proofs.YtcglbpjpbjaecaaGreat.Sh
namespace Go.Proofs.YtcglbpjpbjaecaaGreat.Sh
open Go Go.Ab Go.RowKit
open Go.Proofs.YtcglbpjpbjaecaaGreat.Ru (Pg okP)
set_option maxRecDepth 10000
set_option linter.unusedSectionVars false
structure EM (h0 h:AH) (p2 pW p5:Nat) (l:List (List UInt8)) (e:Ev):Prop where
 m2:∃ w,h.m p2=some (.cells true (.one 73) w)
 mW:h.m pW=some (.cells true (.row 9) (.agg (l.map .str)))
 m5:h.m p5=some (.cells true (.one 73) (evV e (.slc none 0)))
 o:h0.next≤p2∧p2 < pW∧pW < p5∧p5 < h.next
 fr:∀ n,n < h0.next→h.m n=h0.m n
theorem EM.set {h0 h h':AH} {p2 pW p5:Nat} {l:List (List UInt8)} {e e':Ev} (m:EM h0 h p2 pW p5 l e) (u:Upd h h' p5 (.cells true (.one 73) (evV e' (.slc none 0)))):EM h0 h' p2 pW p5 l e':=by
 obtain ⟨⟨w,a⟩,b,c,⟨o1,o2,o3,o4⟩,d⟩:=m
 have n1:=u.next
 exact ⟨⟨w,(u.other _ (by omega)).trans a⟩,(u.other _ (by omega)).trans b,u.at_,⟨o1,o2,o3,by omega⟩,fun n q=>(u.other n (by omega)).trans (d n q)⟩
theorem EM.keep {h0 h h':AH} {p2 pW p5:Nat} {l:List (List UInt8)} {e:Ev} (m:EM h0 h p2 pW p5 l e) (hn:h.next≤h'.next) (hk:∀ n,n < h.next→h'.m n=h.m n):EM h0 h' p2 pW p5 l e:=by
 obtain ⟨⟨w,a⟩,b,c,⟨o1,o2,o3,o4⟩,d⟩:=m
 exact ⟨⟨w,(hk _ (by omega)).trans a⟩,(hk _ (by omega)).trans b,(hk _ (by omega)).trans c,⟨o1,o2,o3,by omega⟩,fun n q=>(hk n (by omega)).trans (d n q)⟩
section
variable {h0 h:AH} {p2 pW p5 m:Nat} {l:List (List UInt8)} {e:Ev} {Q:AEnd→AH→Prop} {x0:V}
end
end Go.Proofs.YtcglbpjpbjaecaaGreat.Sh
namespace Go.Proofs.YtcglbpjpbjaecaaGreat.Sh
open Go Go.Ab Go.RowKit
open Go.Proofs.YtcglbpjpbjaecaaGreat.Ru (Pg okP)
set_option maxRecDepth 10000
set_option linter.unusedSectionVars false
structure BR (h0 h:AH) (p2 pW p5:Nat) (l:List (List UInt8)) (k:V) (bl:List Bool):Prop where
 m2:∃ w,h.m p2=some (.cells true (.one 73) w)
 mW:h.m pW=some (.cells true (.row 9) (.agg (l.map .str)))
 m5:h.m p5=some (.cells true (.one 73) (evV e5 k))
 row:RowB 4 h k (boolsV bl)
 y:Young 4 h0.next k
 o:h0.next≤p2∧p2 < pW∧pW < p5∧p5 < h.next
 fr:∀ n,n < h0.next→h.m n=h0.m n
section
variable {h0:AH} {p2 pW p5:Nat} {Q:AEnd→AH→Prop} {x0:V} {l:List (List UInt8)}
end
section
variable {h0 h:AH} {p2 pW p5 m:Nat} {s:List UInt8}
end
end Go.Proofs.YtcglbpjpbjaecaaGreat.Sh
namespace Go.Proofs.YtcglbpjpbjaecaaGreat.Sh
open Go Go.Ab Go.RowKit
open Go.Proofs.YtcglbpjpbjaecaaGreat.Ru (Pg okP)
set_option maxRecDepth 10000
set_option linter.unusedSectionVars false
section
variable {r:List Ev × Nat × Nat} {h0:AH} {s:List UInt8}
end
end Go.Proofs.YtcglbpjpbjaecaaGreat.Sh
namespace Go.Ab
open Go Go.RowKit
variable {P:Program}
theorem acalls_subL {f:FuncId} {args:List V} {v:V} {h hs:AH} (hn:hs.next=h.next) (hsub:∀ n o,hs.m n=some o→h.m n=some o) (ho:oldV (fun n=>(hs.m n).isSome) v=true)
   (c:ACalls P f args hs (pureE v hs)):ACalls P f args h (pureE v h):=by
 intro B ι W vs F r
 let Bs:Base:=⟨fun b=>b < W.heap.size∧∀ n o L,hs.m n=some o→o.isOwn=true→ι n=some L→b≠L.blk,W⟩
 have Fs:Fits P Bs ι hs W :=
   ⟨fun n o hm=>F.obj n o (hsub n o hm),fun n hk=>F.fresh n (by omega),fun n n' o o' L L' a b=>F.apart n n' o o' L L' (hsub n o a) (hsub n' o' b),
     fun n o L hm how hL hb=>hb.2 n o L hm how hL rfl,fun b hb=>⟨rfl,hb.1⟩,rfl,rfl,rfl,Nat.le_refl _⟩
 refine (c Bs ι W vs Fs r).mono ?_
 rintro e w' ⟨ι',h',ae,h1,h2,h3,h4⟩
 cases ae with
 | panic _=>exact h4.elim
 | ret u =>
   obtain ⟨hu,hh⟩:=h4
   rw [hh] at h2
   subst hu
   have Ff:=Fs.forget h2 h1 fun n _=>rfl
   refine ⟨ι,h,.ret u,Names.le_refl _,?_,?_,rfl,rfl⟩
   · refine ⟨fun n o hm=>?_,F.fresh,F.apart,F.free,fun b hb=>?_,h2.os.trans F.os,h2.tape.trans F.tape,h2.output.trans F.output,Nat.le_trans F.size h2.size⟩
     · cases hsn:hs.m n with
       | some o' =>
         have:=hsub n o' hsn
         rw [hm] at this;cases this
         exact Ff.obj n o hsn
       | none =>
         obtain ⟨L,hL,hr⟩:=F.obj n o hm
         refine ⟨L,hL,objR_keep (Names.le_refl _) (h2.frame L.blk ⟨objR_blk hr,fun n2 o2 L2 a b d q=>?_⟩).1 hr⟩
         have hne:n2≠n:=fun q=>by rw [q,hsn] at a;cases a
         exact F.apart n2 n o2 o L2 L (hsub n2 o2 a) hm hne b d hL q.symm
     · obtain ⟨g1,g2⟩:=F.frame b hb
       obtain ⟨k1,k2⟩:=h2.frame b ⟨g2,fun n o L a how hL q=>F.free n o L (hsub n o a) how hL (q▸hb)⟩
       exact ⟨k1.trans g1,k2⟩
   · cases e with
     | returned x =>
       refine old_rel (fun n hn=>?_) h1 ho h3
       obtain ⟨o,hm⟩:=Option.isSome_iff_exists.1 hn
       obtain ⟨L,hL,_⟩:=Fs.obj n o hm
       exact ⟨L,hL⟩
     | panicked c=>exact h3.elim
     | outgrown=>exact h3.elim
def AH.ownPart (h:AH):AH:=⟨h.next,fun n=>match h.m n with
 | some o=>if o.isOwn then some o else none
 | none=>none⟩
theorem ownPart_own {h:AH} {n:Nat} {o:AO} (hm:h.ownPart.m n=some o):o.isOwn=true∧h.m n=some o:=by
 simp only [AH.ownPart] at hm
 split at hm
 · rename_i o' ho
   split at hm
   · rename_i hw;cases hm;exact ⟨hw,ho⟩
   · cases hm
 · cases hm
theorem ownPart_at {h:AH} {n:Nat} {o:AO} (hm:h.m n=some o) (how:o.isOwn=true):h.ownPart.m n=some o:=by
 simp only [AH.ownPart,hm,how,if_true]
end Go.Ab
namespace Go.Proofs.YtcglbpjpbjaecaaGreat.Sh
open Go Go.Ab Go.RowKit
open Go.Proofs.YtcglbpjpbjaecaaGreat.Ru (Pg okP)
set_option maxRecDepth 10000
set_option linter.unusedSectionVars false
deriving instance DecidableEq for Ev
theorem ne57g (e f:Ev) (c:Bool):aBin Pg .neq 57 (cV e) (cV f) c=some (.bool (!decide (e.ck=f.ck∧e.txn=f.txn∧e.page=f.page∧e.off=f.off∧e.s=f.s))):=by
 have h1:aBin Pg .neq 57 (cV e) (cV f) c=if eqOk Pg 57 (cV e) (cV f) c=true then (aEq Pg 57 (cV e) (cV f)).map (fun b=>.bool (!b)) else none:=rfl
 have h2:eqOk Pg 57 (cV e) (cV f) c=true:=by kernel_rfl
 have h3:plainT Pg 20 57=true:=by kernel_rfl
 rw [h1,h2,if_pos rfl]
 unfold aEq
 rw [h3,if_pos rfl,s57 e,s57 f]
 simp only [Bool.and_self,if_true]
 have:beqV (cV e) (cV f)=some (decide (e.ck=f.ck∧e.txn=f.txn∧e.page=f.page∧e.off=f.off∧e.s=f.s)):=by
   obtain ⟨kind,a,b,ck,txn,page,off,s,keep⟩:=e
   obtain ⟨kind',a',b',ck',txn',page',off',s',keep'⟩:=f
   simp only [cV,beqV,beqVs,if_true]
   clear h1 h2 h3
   have es:(s == s')=decide (s=s'):=by by_cases h:s=s' <;> simp [h]
   simp only [eqd,es]
   have i1:((ck:Int)=ck')=(ck=ck'):=propext ⟨fun h=>by omega,fun h=>by omega⟩
   have i2:((txn:Int)=txn')=(txn=txn'):=propext ⟨fun h=>by omega,fun h=>by omega⟩
   have i3:((page:Int)=page')=(page=page'):=propext ⟨fun h=>by omega,fun h=>by omega⟩
   simp only [i1,i2,i3]
   by_cases k1:ck=ck' <;> by_cases k2:txn=txn' <;> by_cases k3:page=page' <;> by_cases k4:off=off' <;> by_cases k5:s=s' <;> simp [k1,k2,k3,k4,k5]
 rw [this];rfl
theorem old73:oldV (fun _=>false) (.agg [.int .u8 0,.int .i64 0,.int .i64 0,.agg [.int .u8 0,.int .u64 0,.int .u16 0,.int .i64 0,.str []],.slc none 0])=true:=by kernel_rfl
def Owned (h:AH):Prop:=∀ n o,h.m n=some o→o.isOwn=true
theorem Owned.make {h:AH} (w:Owned h) {o:AO} (ho:o.isOwn=true):Owned (h.make o):=fun n o' hm=>by
 rw [make_m] at hm;split at hm
 · cases hm;exact ho
 · exact w n o' hm
theorem Owned.put {h:AH} (w:Owned h) {n:Nat} {o:AO} (ho:o.isOwn=true):Owned (h.put n o):=fun k o' hm=>by
 rw [put_m] at hm;split at hm
 · cases hm;exact ho
 · exact w k o' hm
section
variable (la lb:List Ev) {h0:AH} {x y:V} {v:V} (hv:.bool (decide (la=lb))=v) (hlen:la.length=lb.length)
include hv hlen
omit hv hlen in
theorem neqBool (a b c:Bool):aBin Pg .neq 4 (.bool a) (.bool b) c=some (.bool (a != b)):=by cases a <;> cases b <;> cases c <;> kernel_rfl
omit hlen in
theorem inner45 {h:AH} {e1 e2:Ev} {k1 k2:V} {i m:Nat} (hi:i < 100000) (h1:KeepB h k1 e1.keep) (h2:KeepB h k2 e2.keep) (hkl:e1.keep.length=e2.keep.length) (hb0:e1.keep.length≤100000) (heq:e1.keep=e2.keep→e1=e2) (hF:e1≠e2→decide (la=lb)=false)
   (hw:Owned h) (hn:h0.next≤h.next) (fr:∀ n,n < h0.next→h.m n=h0.m n) {n6 n7:Nat} (hm6:h.m n6=some (.cells true (.one 73) (evV e1 k1))) (hm7:h.m n7=some (.cells true (.one 73) (evV e2 k2))) (cont:e1=e2→Lz41 (Ends v h0) m x y (.int .i64 la.length) (.int .i64 ((i + 1:Nat):Int)) h):∀ (j p:Nat) (mm:Nat),p≤e1.keep.length→e1.keep.length - p=j→j < mm→e1.keep.take p=e2.keep.take p→Lz42 (Ends v h0) m mm x y (.ptr (some ⟨n6,.one 73,[]⟩)) (.ptr (some ⟨n7,.one 73,[]⟩)) (.int .i64 la.length) (.int .i64 i) (.int .i64 e1.keep.length) (.int .i64 p) h:=by
 obtain ⟨a1,hk1⟩:=h1.shape
 obtain ⟨a2,hk2⟩:=h2.shape
 subst hk1;subst hk2
 intro j
 induction j with
 | zero =>
   intro p mm hp hj hm ht
   obtain ⟨mm,rfl⟩:∃ j,mm=j + 1:=⟨mm - 1,by omega⟩
   rw [Lz42_eq]
   refine bindS_mk (b_lss) ?_
   refine i_split (fun c1=>?_) (fun c1=>?_)
   · try rw [c1]
     replace c1:=of_decide_eq_true c1
     exfalso;omega
   · try rw [c1]
     replace c1:=of_decide_eq_false c1
     refine Meet.of (cast_p (Jz3f_eq _ _ _ _ _ _ _) ?_)
     refine bindS_mk (w_add (wrap_i64 (by omega) (by omega))) ?_
     refine Meet.of ?_
     rw [show ((i:Nat):Int) + 1=((i + 1:Nat):Int) by omega]
     exact cont (heq (by rw [List.take_of_length_le (by omega),List.take_of_length_le (by omega)] at ht;exact ht))
 | succ j ih =>
   intro p mm hp hj hm ht
   obtain ⟨mm,rfl⟩:∃ j,mm=j + 1:=⟨mm - 1,by omega⟩
   obtain ⟨b1,hb1⟩:∃ b,e1.keep[p]?=some b:=⟨e1.keep[p]'(by omega),List.getElem?_eq_getElem (by omega)⟩
   obtain ⟨b2,hb2⟩:∃ b,e2.keep[p]?=some b:=⟨e2.keep[p]'(by omega),List.getElem?_eq_getElem (by omega)⟩
   rw [Lz42_eq]
   refine bindS_mk (b_lss) ?_
   refine (show decide (((p:Nat):Int) < ((e1.keep.length:Nat):Int))=true from decide_eq_true (by omega))▸i_t ?_
   rcases h1 with ⟨_,q⟩ | ⟨nA,hnA,qA,hmA⟩
   · rw [q] at hb1;cases hb1
   rcases h2 with ⟨_,q⟩ | ⟨nB,hnB,qB,hmB⟩
   · rw [q] at hb2;cases hb2
   obtain ⟨rfl,_⟩:=V.slc.injEq ..▸qA
   obtain ⟨rfl,_⟩:=V.slc.injEq ..▸qB
   refine Meet.of ?_
   rw [Jz3d_eq]
   refine bindSO_mk (fa_mk (by kernel_rfl)) ?_
   refine bindVO_mk (ld_mk hm6 (by kernel_rfl) rfl) ?_
   refine bindSO_mk (ia_slc _ (by kernel_rfl) (by omega) (by omega)) ?_
   refine bindVO_mk (ld_mk hmA (by kernel_rfl) (getV_row (boolsV_get (by rw [show 0 + ((p:Nat):Int).toNat=p by omega];exact hb1)))) ?_
   refine bindSO_mk (fa_mk (by kernel_rfl)) ?_
   refine bindVO_mk (ld_mk hm7 (by kernel_rfl) rfl) ?_
   refine bindSO_mk (ia_slc _ (by kernel_rfl) (by omega) (by omega)) ?_
   refine bindVO_mk (ld_mk hmB (by kernel_rfl) (getV_row (boolsV_get (by rw [show 0 + ((p:Nat):Int).toNat=p by omega];exact hb2)))) ?_
   refine bindSO_mk (neqBool b1 b2 _) ?_
   refine i_split (fun c1=>?_) (fun c1=>?_)
   · try rw [c1]
     exact ⟨congrArg AEnd.ret ((congrArg V.bool (hF (fun q=>by rw [q,hb2] at hb1;cases hb1;simp at c1)).symm).trans hv),fr⟩
   · try rw [c1]
     refine Meet.of (cast_p (Jz3e_eq _ _ _ _ _ _ _ _ _ _ _ _) ?_)
     first | refine bindS_mk (w_add (by first | exact wrap_i64 (by omega) (by omega) | exact wr_u8 (by omega) (by omega) | exact wr_u16 (by omega) (by omega) | exact wr_u32 (by omega) (by omega) | exact wr_u64 (by omega) (by omega))) ?_ | refine bindS_mk (b_add) ?_
     refine Meet.of ((congrArg (fun z:Int=>Lz42 (Ends v h0) m mm _ _ _ _ _ _ _ (.int .i64 z) h) (show ((p:Nat):Int) + 1=((p + 1:Nat):Int) by omega)).mpr (ih (p + 1) mm (by omega) (by omega) (by omega) ?_))
     rw [take_succ' hb1,take_succ' hb2,ht,show b1=b2 by simpa using c1]
omit hv hlen in
theorem ev_ext {e f:Ev} (h1:e.kind=f.kind) (h2:e.a=f.a) (h3:e.b=f.b) (h4:e.ck=f.ck∧e.txn=f.txn∧e.page=f.page∧e.off=f.off∧e.s=f.s) (h5:e.keep=f.keep):e=f:=by
 cases e;cases f;simp_all
theorem tail45 {h:AH} {e1 e2:Ev} {k1 k2:V} {i m:Nat} (hi:i < 100000) (hkA:KeepB h k1 e1.keep) (hkB:KeepB h k2 e2.keep) (hb0:e1.keep.length≤100000) (hF:e1≠e2→decide (la=lb)=false)
   (hw:Owned h) (hn:h0.next≤h.next) (fr:∀ n,n < h0.next→h.m n=h0.m n) {n6 n7:Nat} (hm6:h.m n6=some (.cells true (.one 73) (evV e1 k1))) (hm7:h.m n7=some (.cells true (.one 73) (evV e2 k2))) (cont:e1=e2→Lz41 (Ends v h0) m x y (.int .i64 la.length) (.int .i64 ((i + 1:Nat):Int)) h):(
 bindV (still (aFieldAddr Pg 73 (.ptr (some ⟨n6,.one 73,[]⟩)) 0) h) fun v23 h24 =>
 bindV (aLoadV Pg h24 5 v23) fun v25 h26 =>
 bindV (still (aFieldAddr Pg 73 (.ptr (some ⟨n7,.one 73,[]⟩)) 0) h26) fun v27 h28 =>
 bindV (aLoadV Pg h28 5 v27) fun v29 h30 =>
 bindV (still (aBin Pg .neq 5 v25 v29 false) h30) fun v31 h32 =>
 vcG v31 false (
 bindV (still (aFieldAddr Pg 73 (.ptr (some ⟨n6,.one 73,[]⟩)) 1) h32) fun v96 h97 =>
 bindV (aLoadV Pg h97 3 v96) fun v98 h99 =>
 bindV (still (aFieldAddr Pg 73 (.ptr (some ⟨n7,.one 73,[]⟩)) 1) h99) fun v100 h101 =>
 bindV (aLoadV Pg h101 3 v100) fun v102 h103 =>
 bindV (still (aBin Pg .neq 3 v98 v102 false) h103) fun v104 h105 =>
 Meet (Gz16 (Ends v h0) m x y (.ptr (some ⟨n6,.one 73,[]⟩)) (.ptr (some ⟨n7,.one 73,[]⟩)) (.int .i64 la.length) (.int .i64 i) v31 v104 h105)) (Meet (Gz16 (Ends v h0) m x y (.ptr (some ⟨n6,.one 73,[]⟩)) (.ptr (some ⟨n7,.one 73,[]⟩)) (.int .i64 la.length) (.int .i64 i) v31 hole h32))):=by
 obtain ⟨a1,hk1⟩:=hkA.shape
 obtain ⟨a2,hk2⟩:=hkB.shape
 subst hk1;subst hk2
 refine bindS_mk (fa_mk (by kernel_rfl)) ?_
 refine bindV_mk (ld_mk hm6 (by kernel_rfl) rfl) ?_
 refine bindS_mk (fa_mk (by kernel_rfl)) ?_
 refine bindV_mk (ld_mk hm7 (by kernel_rfl) rfl) ?_
 refine bindS_mk (b_neq) ?_
 refine g_split_f (fun c1=>?_) (fun c1=>?_)
 · try rw [c1]
   replace c1:=eq_of_bne_false c1
   refine bindS_mk (fa_mk (by kernel_rfl)) ?_
   refine bindV_mk (ld_mk hm6 (by kernel_rfl) rfl) ?_
   refine bindS_mk (fa_mk (by kernel_rfl)) ?_
   refine bindV_mk (ld_mk hm7 (by kernel_rfl) rfl) ?_
   refine bindS_mk (b_neq) ?_
   refine Meet.of (cast_p (Gz16_eq _ _ _ _ _ _ _ _ _ _ _) ?_)
   refine bindV_mk p_f ?_
   refine g_split_f (fun c2=>?_) (fun c2=>?_)
   · try rw [c2]
     replace c2:=eq_of_bne_false c2
     refine bindS_mk (fa_mk (by kernel_rfl)) ?_
     refine bindV_mk (ld_mk hm6 (by kernel_rfl) rfl) ?_
     refine bindS_mk (fa_mk (by kernel_rfl)) ?_
     refine bindV_mk (ld_mk hm7 (by kernel_rfl) rfl) ?_
     refine bindS_mk (b_neq) ?_
     refine Meet.of (cast_p (Gz17_eq _ _ _ _ _ _ _ _ _ _ _) ?_)
     refine bindV_mk p_f ?_
     refine g_split_f (fun c3=>?_) (fun c3=>?_)
     · try rw [c3]
       replace c3:=eq_of_bne_false c3
       refine bindS_mk (fa_mk (by kernel_rfl)) ?_
       refine bindV_mk (ld_mk hm6 (by kernel_rfl) rfl) ?_
       refine bindS_mk (fa_mk (by kernel_rfl)) ?_
       refine bindV_mk (ld_mk hm7 (by kernel_rfl) rfl) ?_
       refine bindS_mk (ne57g e1 e2 _) ?_
       refine Meet.of (cast_p (Gz18_eq _ _ _ _ _ _ _ _ _ _ _) ?_)
       refine bindV_mk p_f ?_
       refine g_split_f (fun c4=>?_) (fun c4=>?_)
       · try rw [c4]
         have c4:(e1.ck=e2.ck∧e1.txn=e2.txn∧e1.page=e2.page∧e1.off=e2.off∧e1.s=e2.s):=of_decide_eq_true (by simpa only [Bool.not_eq_false'] using c4)
         refine bindS_mk (fa_mk (by kernel_rfl)) ?_
         refine bindV_mk (ld_mk hm6 (by kernel_rfl) rfl) ?_
         refine bindV_mk (len_slc (by kernel_rfl)) ?_
         refine bindS_mk (fa_mk (by kernel_rfl)) ?_
         refine bindV_mk (ld_mk hm7 (by kernel_rfl) rfl) ?_
         refine bindV_mk (len_slc (by kernel_rfl)) ?_
         refine bindS_mk (b_neq) ?_
         refine Meet.of (cast_p (Gz19_eq _ _ _ _ _ _ _ _ _ _ _) ?_)
         refine bindV_mk p_f ?_
         refine Meet.of (cast_p (Jz3b_eq _ _ _ _ _ _ _ _ _ _) ?_)
         refine i_split (fun c5=>?_) (fun c5=>?_)
         · try rw [c5]
           replace c5:=ne_of_bne c5
           exact ⟨congrArg AEnd.ret ((congrArg V.bool (hF (fun q=>by subst q;first | (exact absurd rfl (by assumption)) | (refine absurd ?_ (by assumption:¬ (e1.ck=e1.ck∧e1.txn=e1.txn∧e1.page=e1.page∧e1.off=e1.off∧e1.s=e1.s));simp))).symm).trans hv),fr⟩
         · try rw [c5]
           replace c5:=eq_of_bne_false c5
           refine Meet.of (cast_p (Jz3c_eq _ _ _ _ _ _ _ _ _) ?_)
           refine bindS_mk (fa_mk (by kernel_rfl)) ?_
           refine bindV_mk (ld_mk hm6 (by kernel_rfl) rfl) ?_
           refine bindV_mk (len_slc (by kernel_rfl)) ?_
           have hkl:e1.keep.length=e2.keep.length:=by omega
           refine ⟨e1.keep.length + 1,Meet.of (inner45 la lb hv (by omega) hkA hkB hkl hb0 ?_ hF hw hn fr hm6 hm7 cont e1.keep.length 0 _ (by omega) (by omega) (by omega) rfl)⟩
           intro q
           exact ev_ext (by omega) (by omega) (by omega) (by assumption) q
       · try rw [c4]
         have c4:¬ (e1.ck=e2.ck∧e1.txn=e2.txn∧e1.page=e2.page∧e1.off=e2.off∧e1.s=e2.s):=of_decide_eq_false (by simpa only [Bool.not_eq_true'] using c4)
         refine Meet.of (cast_p (Gz19_eq _ _ _ _ _ _ _ _ _ _ _) ?_)
         refine bindV_mk p_t ?_
         refine Meet.of (cast_p (Jz3b_eq _ _ _ _ _ _ _ _ _ _) ?_)
         refine i_t ?_
         exact ⟨congrArg AEnd.ret ((congrArg V.bool (hF (fun q=>by subst q;first | (exact absurd rfl (by assumption)) | (refine absurd ?_ (by assumption:¬ (e1.ck=e1.ck∧e1.txn=e1.txn∧e1.page=e1.page∧e1.off=e1.off∧e1.s=e1.s));simp))).symm).trans hv),fr⟩
     · try rw [c3]
       replace c3:=ne_of_bne c3
       refine Meet.of (cast_p (Gz18_eq _ _ _ _ _ _ _ _ _ _ _) ?_)
       refine bindV_mk p_t ?_
       refine g_tf ?_
       refine Meet.of (cast_p (Gz19_eq _ _ _ _ _ _ _ _ _ _ _) ?_)
       refine bindV_mk p_t ?_
       refine Meet.of (cast_p (Jz3b_eq _ _ _ _ _ _ _ _ _ _) ?_)
       refine i_t ?_
       exact ⟨congrArg AEnd.ret ((congrArg V.bool (hF (fun q=>by subst q;first | (exact absurd rfl (by assumption)) | (refine absurd ?_ (by assumption:¬ (e1.ck=e1.ck∧e1.txn=e1.txn∧e1.page=e1.page∧e1.off=e1.off∧e1.s=e1.s));simp))).symm).trans hv),fr⟩
   · try rw [c2]
     replace c2:=ne_of_bne c2
     refine Meet.of (cast_p (Gz17_eq _ _ _ _ _ _ _ _ _ _ _) ?_)
     refine bindV_mk p_t ?_
     refine g_tf ?_
     refine Meet.of (cast_p (Gz18_eq _ _ _ _ _ _ _ _ _ _ _) ?_)
     refine bindV_mk p_t ?_
     refine g_tf ?_
     refine Meet.of (cast_p (Gz19_eq _ _ _ _ _ _ _ _ _ _ _) ?_)
     refine bindV_mk p_t ?_
     refine Meet.of (cast_p (Jz3b_eq _ _ _ _ _ _ _ _ _ _) ?_)
     refine i_t ?_
     exact ⟨congrArg AEnd.ret ((congrArg V.bool (hF (fun q=>by subst q;first | (exact absurd rfl (by assumption)) | (refine absurd ?_ (by assumption:¬ (e1.ck=e1.ck∧e1.txn=e1.txn∧e1.page=e1.page∧e1.off=e1.off∧e1.s=e1.s));simp))).symm).trans hv),fr⟩
 · try rw [c1]
   replace c1:=ne_of_bne c1
   refine Meet.of (cast_p (Gz16_eq _ _ _ _ _ _ _ _ _ _ _) ?_)
   refine bindV_mk p_t ?_
   refine g_tf ?_
   refine Meet.of (cast_p (Gz17_eq _ _ _ _ _ _ _ _ _ _ _) ?_)
   refine bindV_mk p_t ?_
   refine g_tf ?_
   refine Meet.of (cast_p (Gz18_eq _ _ _ _ _ _ _ _ _ _ _) ?_)
   refine bindV_mk p_t ?_
   refine g_tf ?_
   refine Meet.of (cast_p (Gz19_eq _ _ _ _ _ _ _ _ _ _ _) ?_)
   refine bindV_mk p_t ?_
   refine Meet.of (cast_p (Jz3b_eq _ _ _ _ _ _ _ _ _ _) ?_)
   refine i_t ?_
   exact ⟨congrArg AEnd.ret ((congrArg V.bool (hF (fun q=>by subst q;first | (exact absurd rfl (by assumption)) | (refine absurd ?_ (by assumption:¬ (e1.ck=e1.ck∧e1.txn=e1.txn∧e1.page=e1.page∧e1.off=e1.off∧e1.s=e1.s));simp))).symm).trans hv),fr⟩
end
end Go.Proofs.YtcglbpjpbjaecaaGreat.Sh
namespace Go.Proofs.YtcglbpjpbjaecaaGreat.Sh
open Go Go.Ab Go.RowKit
open Go.Proofs.YtcglbpjpbjaecaaGreat.Ru (Pg okP)
set_option maxRecDepth 10000
section
variable (la lb:List Ev) {h0:AH} {x y:V} {v:V} (hv:.bool (decide (la=lb))=v) (hlen:la.length=lb.length)
include hv hlen
theorem step45 {h:AH} {e1 e2:Ev} {i m:Nat} (hi:i < la.length) (hi2:la.length≤100000) (hA:ScrB h0 x la) (hB:ScrB h0 y lb) (q1:la[i]?=some e1) (q2:lb[i]?=some e2) (hb0:e1.keep.length≤100000) (hF:e1≠e2→decide (la=lb)=false)
   (hw:Owned h) (hn:h0.next≤h.next) (fr:∀ n,n < h0.next→h.m n=h0.m n) (cont:e1=e2→∀ h:AH,Owned h→h0.next≤h.next→(∀ n,n < h0.next→h.m n=h0.m n)→Lz41 (Ends v h0) m x y (.int .i64 la.length) (.int .i64 ((i + 1:Nat):Int)) h):Jz3a (Ends v h0) m x y (.int .i64 la.length) (.int .i64 i) h:=by
 obtain ⟨nA,xa,k1,hnA,hxA,hmA,hxa,hkA⟩:=hA.at q1
 obtain ⟨nB,xb,k2,hnB,hxB,hmB,hxb,hkB⟩:=hB.at q2
 subst hxA;subst hxB
 have gA:=(fr nA hnA).trans hmA
 have gB:=(fr nB hnB).trans hmB
 obtain ⟨a1,s1⟩:=hkA.shape
 obtain ⟨a2,s2⟩:=hkB.shape
 have sh1:hasShape Pg (evV e1 k1) 73=true:=by rw [s1];exact s73 e1 a1 _
 have sh2:hasShape Pg (evV e2 k2) 73=true:=by rw [s2];exact s73 e2 a2 _
 have ga:getV (.agg xa) [0 + ((i:Nat):Int).toNat]=some (evV e1 k1):=getV_row (by rw [show 0 + ((i:Nat):Int).toNat=i by omega];exact hxa)
 have gb:getV (.agg xb) [0 + ((i:Nat):Int).toNat]=some (evV e2 k2):=getV_row (by rw [show 0 + ((i:Nat):Int).toNat=i by omega];exact hxb)
 rw [Jz3a_eq]
 refine bindSO_mk (ia_slc _ (by kernel_rfl) (by omega) (by omega)) ?_
 refine bindVO_mk (ld_mk gA (by kernel_rfl) ga) ?_
 refine bindSO_mk (ia_slc _ (by kernel_rfl) (by omega) (by omega)) ?_
 refine bindVO_mk (ld_mk gB (by kernel_rfl) gb) ?_
 refine flo_mk z73 zs73 old73 hw ⟨ld_mk (show AH.m _ _=_ by rw [make_m,if_neg (by omega)];exact gB) (by kernel_rfl) gb,?_⟩
 have w1:=hw.make (o:=.cells true (.one 73) (.agg [.int .u8 0,.int .i64 0,.int .i64 0,.agg [.int .u8 0,.int .u64 0,.int .u16 0,.int .i64 0,.str []],.slc none 0])) rfl
 refine flo_mk z73 zs73 old73 w1 ⟨ld_mk (show AH.m _ _=_ by rw [make_m,if_neg (by rw [make_next];omega),make_m,if_neg (by omega)];exact gB) (by kernel_rfl) gb,?_⟩
 have w2:=w1.make (o:=.cells true (.one 73) (.agg [.int .u8 0,.int .i64 0,.int .i64 0,.agg [.int .u8 0,.int .u64 0,.int .u16 0,.int .i64 0,.str []],.slc none 0])) rfl
 generalize hz:(V.agg [.int .u8 0,.int .i64 0,.int .i64 0,.agg [.int .u8 0,.int .u64 0,.int .u16 0,.int .i64 0,.str []],.slc none 0])=zz at *
 refine bindV_mk (st_mk (p:=[]) (w:=zz) (v':=evV e1 k1) (show AH.m _ _=some (.cells true (.one 73) zz) by rw [make_m,if_neg (by rw [make_next];omega),make_m,if_pos rfl]) (by kernel_rfl) rfl sh1 rfl) ?_
 refine ⟨ld_mk (show AH.m _ _=_ by rw [put_m,if_neg (by omega),make_m,if_neg (by rw [make_next];omega),make_m,if_neg (by omega)];exact gB) (by kernel_rfl) gb,?_⟩
 refine bindV_mk (st_mk (p:=[]) (w:=zz) (v':=evV e2 k2) (show AH.m _ _=some (.cells true (.one 73) zz) by rw [put_m,if_neg (by rw [make_next];omega),make_m,if_pos rfl]) (by kernel_rfl) rfl sh2 rfl) ?_
 generalize hh9:(AH.put (AH.put (AH.make (AH.make h _) _) _ _) _ _)=h9
 have t6:h9.m h.next=some (.cells true (.one 73) (evV e1 k1)):=by rw [← hh9,put_m,if_neg (by rw [make_next];omega),put_m,if_pos rfl]
 have t7:h9.m (h.next + 1)=some (.cells true (.one 73) (evV e2 k2)):=by rw [← hh9,put_m,if_pos (by rw [make_next])]
 have tn:h9.next=h.next + 2:=by rw [← hh9];rfl
 have to:∀ n,n < h.next→h9.m n=h.m n:=fun n q=>by rw [← hh9,put_m,if_neg (by rw [make_next];omega),put_m,if_neg (by omega),make_m,if_neg (by rw [make_next];omega),make_m,if_neg (by omega)]
 have tw:Owned h9:=by rw [← hh9];exact (w2.put rfl).put rfl
 have fr9:∀ n,n < h0.next→h9.m n=h0.m n:=fun n q=>(to n (by omega)).trans (fr n q)
 exact tail45 la lb hv hlen (by omega) (hkA.keep (by omega) fr9) (hkB.keep (by omega) fr9) hb0 hF tw (by omega) fr9 t6 t7 (fun q=>cont q h9 tw (by omega) fr9)
theorem loop45 (hi2:la.length≤100000) (hb:∀ e∈la,e.keep.length≤100000) (hA:ScrB h0 x la) (hB:ScrB h0 y lb):∀ (j i m:Nat) (h:AH),i≤la.length→la.length - i=j→j < m→la.take i=lb.take i→Owned h→h0.next≤h.next→(∀ n,n < h0.next→h.m n=h0.m n) →
   Lz41 (Ends v h0) m x y (.int .i64 la.length) (.int .i64 i) h:=by
 intro j
 induction j with
 | zero =>
   intro i m h hi hj hm ht hw hn fr
   obtain ⟨m,rfl⟩:∃ j,m=j + 1:=⟨m - 1,by omega⟩
   rw [Lz41_eq]
   refine bindS_mk (b_lss) ?_
   refine i_split (fun c1=>?_) (fun c1=>?_)
   · try rw [c1]
     replace c1:=of_decide_eq_true c1
     exfalso;omega
   · try rw [c1]
     replace c1:=of_decide_eq_false c1
     refine Meet.of (cast_p (Jz3g_eq _ _) ?_)
     have e:la=lb:=by rw [List.take_of_length_le (by omega),List.take_of_length_le (by omega)] at ht;exact ht
     exact ⟨congrArg AEnd.ret ((congrArg V.bool (decide_eq_true e).symm).trans hv),fr⟩
 | succ j ih =>
   intro i m h hi hj hm ht hw hn fr
   obtain ⟨m,rfl⟩:∃ j,m=j + 1:=⟨m - 1,by omega⟩
   obtain ⟨e1,he1⟩:∃ e,la[i]?=some e:=⟨la[i]'(by omega),List.getElem?_eq_getElem (by omega)⟩
   obtain ⟨e2,he2⟩:∃ e,lb[i]?=some e:=⟨lb[i]'(by omega),List.getElem?_eq_getElem (by omega)⟩
   rw [Lz41_eq]
   refine bindS_mk (b_lss) ?_
   refine (show decide (((i:Nat):Int) < ((la.length:Nat):Int))=true from decide_eq_true (by omega))▸i_t ?_
   refine Meet.of ?_
   refine step45 la lb hv hlen (by omega) hi2 hA hB he1 he2 (hb e1 (List.mem_of_getElem? he1)) (fun hne=>decide_eq_false fun q=>hne ?_) hw hn fr (fun q h w n f=>ih (i + 1) m h (by omega) (by omega) (by omega) ?_ w n f)
   · rw [q,he2] at he1;cases he1;rfl
   · rw [take_succ' he1,take_succ' he2,ht,q]
end
theorem same0 (la lb:List Ev) {h0:AH} {x y:V} {v:V} (hv:.bool (decide (la=lb))=v) (hi2:la.length≤100000) (hb:∀ e∈la,e.keep.length≤100000) (hA:ScrB h0 x la) (hB:ScrB h0 y lb) (hw:Owned h0):ACalls Pg 45 [x,y] h0 (Ends v h0):=by
 obtain ⟨a1,s1⟩:=hA.shape
 obtain ⟨a2,s2⟩:=hB.shape
 subst s1;subst s2
 refine C45 _ _ _ _ ?_
 refine bindV_mk (len_slc (by kernel_rfl)) ?_
 refine bindV_mk (len_slc (by kernel_rfl)) ?_
 refine bindS_mk (b_neq) ?_
 refine i_split (fun c1=>?_) (fun c1=>?_)
 · try rw [c1]
   replace c1:=ne_of_bne c1
   exact ⟨congrArg AEnd.ret ((congrArg V.bool (decide_eq_false (fun q=>c1 (by rw [q]))).symm).trans hv),fun n _=>rfl⟩
 · try rw [c1]
   replace c1:=eq_of_bne_false c1
   refine Meet.of (cast_p (Jz39_eq _ _ _ _) ?_)
   refine bindV_mk (len_slc (by kernel_rfl)) ?_
   exact ⟨la.length + 1,Meet.of (loop45 la lb hv (by omega) hi2 hb hA hB la.length 0 _ _ (by omega) (by omega) (by omega) rfl hw (by omega) (fun n _=>rfl))⟩
theorem KeepB.part {h:AH} {k:V} {l:List Bool} (b:KeepB h k l):KeepB h.ownPart k l:=by
 rcases b with ⟨rfl,rfl⟩ | ⟨n,h1,rfl,h3⟩
 · exact .inl ⟨rfl,rfl⟩
 · exact .inr ⟨n,h1,rfl,ownPart_at h3 rfl⟩
theorem ScrB.part {h:AH} {x:V} {l:List Ev} (b:ScrB h x l):ScrB h.ownPart x l:=by
 rcases b with ⟨rfl,rfl⟩ | ⟨n,xs,h1,rfl,h3,h4⟩
 · exact .inl ⟨rfl,rfl⟩
 · exact .inr ⟨n,xs,h1,rfl,ownPart_at h3 rfl,h4.1,fun i e he=>let ⟨k,q1,q2⟩:=h4.2 i e he;⟨k,q1,q2.part⟩⟩
theorem sameP (la lb:List Ev) {h:AH} {x y:V} (hi2:la.length≤100000) (hb:∀ e∈la,e.keep.length≤100000) (hA:ScrB h x la) (hB:ScrB h y lb):ACalls Pg 45 [x,y] h (pureE (.bool (decide (la=lb))) h) :=
 acalls_subL (hs:=h.ownPart) rfl (fun n o q=>(ownPart_own q).2) rfl (acalls_forget (by rfl) (same0 la lb rfl hi2 hb hA.part hB.part fun n o q=>(ownPart_own q).1))
end Go.Proofs.YtcglbpjpbjaecaaGreat.Sh
namespace Go.Proofs.YtcglbpjpbjaecaaGreat.It
open Go Go.Ab Go.RowKit
open Go.Proofs.YtcglbpjpbjaecaaGreat.Ru (Pg okP hd FT pu tabOk)
set_option maxRecDepth 100000
section
variable {P:Program} {B:Base} {ι:Names} {h:AH} {W:World}
theorem fits_put {l:Nat} {x x':Obj} (F:Fits P B ι h W) (hl:W.heap[l]?=some x) (hx:(∀ a b c,x≠.cells a b c)∧(∀ a b,x≠.map a b)∧(∀ a b,x≠.stringIter a b)∧∀ a b c d,x≠.mapIter a b c d) (hB:¬ B.F l):Fits P B ι h (W.putObj l x'):=by
 have ne:∀ b,b≠l→(W.putObj l x').heap[b]?=W.heap[b]?:=fun b hb=>World.putObj_heap_other hb
 have sz:(W.putObj l x').heap.size=W.heap.size:=by simp [World.putObj]
 exact {
   obj:=fun n o hm=>by
     obtain ⟨L,h1,h2⟩:=F.obj n o hm
     refine ⟨L,h1,objR_keep (Names.le_refl _) (ne _ ?_) h2⟩
     intro e
     cases o with
     | cells own ty v=>obtain ⟨_,_,a,b,c,elem,fr,g1,_⟩:=h2;rw [e,hl] at g1;cases g1;exact hx.1 _ _ _ rfl
     | mp kt et es=>obtain ⟨xs,c,g1,_⟩:=h2;rw [e,hl] at g1;cases g1;exact hx.2.1 _ _ rfl
     | mps kt et es st c=>obtain ⟨xs,g1,_⟩:=h2;rw [e,hl] at g1;cases g1;exact hx.2.1 _ _ rfl
     | sit s p=>obtain ⟨_,g1⟩:=h2;rw [e,hl] at g1;cases g1;exact hx.2.2.1 _ _ rfl
     | mit m a b c=>obtain ⟨_,mb,_,g1⟩:=h2;rw [e,hl] at g1;cases g1;exact hx.2.2.2 _ _ _ _ rfl
   fresh:=F.fresh
   apart:=F.apart
   free:=F.free
   frame:=fun b hb=>⟨(ne b (fun e=>hB (e▸hb))).trans (F.frame b hb).1,by rw [sz];exact (F.frame b hb).2⟩
   os:=F.os
   tape:=F.tape
   output:=F.output
   size:=by rw [sz];exact F.size }
theorem piece (K0:Ok P) {N:Nat} {c:Code} {k:KT} {D:List AD} {E E':XE} {H H':HT} (cc:∀ e,Same e E→∀ (Qv:AExit→Env→AH→Prop),(∀ e',Same e' E'→Qv .normal e' H'.ah)→vc P N c k Qv e H.ah)
   {e:Env} {a:Act} {Q:Exit→Act→World→Prop} (F:Fits P B ι H.ah W) (r:relE P ι N D e a) (hs:Same e E)
   (next:∀ ι' W' e' a',Names.le ι ι'→Fits P B ι' H'.ah W'→relE P ι' N D e' a'→Same e' E'→Q .normal a' W'):c.wp P Q a W:=by
 refine wp_mono (vc_ok K0 c k (fun x e h=>x=.normal∧Same e E'∧h=H'.ah) ι H.ah W e a F r (cc e hs _ fun e' h=>⟨rfl,h,rfl⟩)) ?_
 rintro x a' w ⟨ι',h',e',ax,p1,p2,p3,p4,rfl,p6,rfl⟩
 cases x with
 | normal=>exact next ι' w e' a' p1 p2 p3 p6
 | _=>exact p4.elim
end
theorem lift_nil {P:Program} {f:FuncId} {args:List V} {v:V} (ha:flatBs args=true) (hv:oldV (fun _=>false) v=true) (c:ACalls P f args AH0 fun e _=>e=.ret v) (h:AH):ACalls P f args h (pureE v h):=by
 intro B ι W vs F r
 refine (c _ _ W vs (fits0 W) (flat_relL args vs ha r)).mono ?_
 rintro e w' ⟨ι',h',ae,h1,h2,h3,rfl⟩
 have hold:∀ b,b < W.heap.size→w'.heap[b]?=W.heap[b]?:=fun b hb=>(h2.frame b hb).1
 refine ⟨ι,h,.ret v,Names.le_refl _,?_,?_,rfl,rfl⟩
 · exact (F.grow (fun _=>False) hold (fun _ h=>h.elim) h2.os h2.tape h2.output h2.size).rebase (BaseLe.grow F _ hold h2.os h2.tape h2.output h2.size)
 · cases e with
   | returned x=>exact rel_le (ι:=fun _=>none) (fun n L h=>by cases h) (old_rel (ι:=fun _=>none) (fun n hn=>by cases hn) h1 hv h3)
   | panicked c=>exact h3.elim
   | outgrown=>exact h3.elim
noncomputable def B155:Code:=(Tryz.f155.body).getD .skip
noncomputable def asg:Code:=match subC B155 [1,1,1,1,0,1,0] with | .rangeFunc _ _ a _=>a | _=>.skip
noncomputable def bdy:Code:=match subC B155 [1,1,1,1,0,1,0] with | .rangeFunc _ _ _ b=>b | _=>.skip
noncomputable def C0:Code:=subC B155 [0]
noncomputable def C1:Code:=subC B155 [1,0]
noncomputable def C2:Code:=subC B155 [1,1,0]
noncomputable def C3:Code:=subC B155 [1,1,1,0]
noncomputable def C4:Code:=subC B155 [1,1,1,1,0,0]
noncomputable def C5:Code:=subC B155 [1,1,1,1,1]
theorem shape:B155=.seq C0 (.seq C1 (.seq C2 (.seq C3 (.seq (.seq C4 (.block 0 (.rangeFunc (.tmp 31) #[32,33] asg bdy))) C5)))):=by kernel_rfl
noncomputable def exI:CallF:=(exTabM Pg FT hd noMemo pu 60).ex
noncomputable def nx {R:Type} (k:XE→HT→Option R):AExit→XE→HT→Option R:=fun x E H=>match x with
 | .normal=>k E H
 | _=>none
theorem nx_some {R:Type} {k:XE→HT→Option R} {x:AExit} {E:XE} {H:HT} {r:R} (h:nx k x E H=some r):x=.normal∧k E H=some r:=by
 unfold nx at h
 cases x <;> first | exact ⟨rfl,h⟩ | cases h
def args:List V:=[.int .u64 1,.str [],.int .u64 1]
noncomputable def E0:XE:=xInit args 0 .nil fun E=>E
noncomputable def fin5:AExit→XE→HT→Option Unit:=fun x E H=>match x with
 | .ret=>bif sameV (XE.get E 6) (.slc none 0) && sameV (XE.get E 7) (.int .u64 1) then some () else none
 | _=>none
noncomputable def pre:Option (XE × HT) :=
 exC Pg 53 exI pu C0 (nx fun E H=>exC Pg 53 exI pu C1 (nx fun E H=>exC Pg 53 exI pu C2 (nx fun E H=>exC Pg 53 exI pu C3 (nx fun E H=>exC Pg 53 exI pu C4 (nx fun E H=>some (E,H)) E H) E H) E H) E H) E0 HT0
noncomputable def E4:XE:=(pre.getD (.nil,HT0)).1
noncomputable def H4:HT:=(pre.getD (.nil,HT0)).2
theorem pre_eq:pre=some (E4,H4):=by kernel_rfl
def sP:V:=.ptr (some ⟨3,.one 9,[]⟩)
theorem slot31:XE.get E4 31=.fn (.func 266) [] [sP]:=by kernel_rfl
noncomputable def post (l:Nat):Option Unit:=exI Unit 266 [.fn (.yield l) [] [],sP] H4 fun ae H=>match ae with
   | .ret _=>exC Pg 53 exI pu C5 fin5 E4 H
   | .panic _=>none
theorem post_eq (l:Nat):post l=some ():=by kernel_rfl
theorem itemsC0 (hh:HdOk Pg hd):ACalls Pg 155 args AH0 fun e _=>e=.ret (.tup [.slc none 0,.int .u64 1]):=by
 intro B ι W vs F ra
 have hx:CallOk Pg exI:=(exTabM_ok okP tabOk hh noMemo_ok 60).1
 obtain ⟨E0',q1,q2⟩:=xInit_same args
 have hE0:E0=E0':=q1 XE fun E=>E
 have hs0:Same (initEnv 0 args) E0:=hE0▸q2
 have hp:=pre_eq
 unfold pre at hp
 obtain ⟨x,E1,H1,o1,hp,c0⟩:=exC_ok (pu:=pu) hx C0 _ _ _ HT0_own hp
 obtain ⟨rfl,hp⟩:=nx_some hp
 have w1:=o1.own HT0_own
 obtain ⟨x,E2,H2,o2,hp,c1⟩:=exC_ok (pu:=pu) hx C1 _ _ _ w1 hp
 obtain ⟨rfl,hp⟩:=nx_some hp
 have w2:=o2.own w1
 obtain ⟨x,E3,H3,o3,hp,c2⟩:=exC_ok (pu:=pu) hx C2 _ _ _ w2 hp
 obtain ⟨rfl,hp⟩:=nx_some hp
 have w3:=o3.own w2
 obtain ⟨x,E3b,H3b,o3b,hp,c3⟩:=exC_ok (pu:=pu) hx C3 _ _ _ w3 hp
 obtain ⟨rfl,hp⟩:=nx_some hp
 have w3b:=o3b.own w3
 obtain ⟨x,E5,H5,o5,hp,c4⟩:=exC_ok (pu:=pu) hx C4 _ _ _ w3b hp
 obtain ⟨rfl,hp⟩:=nx_some hp
 have w5:=o5.own w3b
 have hp:some (E5,H5)=some (E4,H4):=hp
 simp only [Option.some.injEq,Prod.mk.injEq] at hp
 obtain ⟨e5,h5⟩:=hp
 rw [e5,h5] at c4
 rw [h5] at w5
 rw [← HT0_ah] at F
 refine callsIn_wide (n:=0) |>.1 (callsIn_of_wp_marks Tryz.func155 (show Tryz.f155.body=some B155 from by kernel_rfl) trivial ?_)
 rw [wpIn_wide,shape]
 have hE:relE Pg ι 53 [] (initEnv 0 args) { tmps:=vs.toArray++Array.replicate (Tryz.f155.ntmps - vs.toArray.size) undef,defers:=[] }:=initE (by kernel_rfl) ra
 refine wp_seq (piece okP c0 F hE hs0 fun ι1 W1 e1 a1 l1 F1 r1 s1=>?_)
 refine wp_seq (piece okP c1 F1 r1 s1 fun ι2 W2 e2 a2 l2 F2 r2 s2=>?_)
 refine wp_seq (piece okP c2 F2 r2 s2 fun ι3 W3 e3 a3 l3 F3 r3 s3=>?_)
 refine wp_seq (piece okP c3 F3 r3 s3 fun ι4 W4 e4 a4 l4 F4 r4 s4=>?_)
 refine wp_seq (wp_seq (piece okP c4 F4 r4 s4 fun ι5 W5 e5 a5 l5 F5 r5 s5=>?_))
 have ll:Names.le ι ι5:=Names.le_trans l1 (Names.le_trans l2 (Names.le_trans l3 (Names.le_trans l4 l5)))
 refine wp_block ?_
 rw [← wpIn_wide (n:=0)]
 refine wpIn_rangeFunc fun fn hfn=>?_
 -- the two blocks
 obtain ⟨rec,hrec⟩:∃ rec:Loop,rec={ state:=.ready,pending:=none,fn,tmps:=a5.tmps,params:=#[32,33],assign:=asg,body:=bdy,defers:=W5.heap.size }:=⟨_,rfl⟩
 obtain ⟨Wl,hWl⟩:∃ Wl,(W5.alloc (.deferred (some []))).alloc (.loop rec)=Wl:=⟨_,rfl⟩
 have hL:Wl.heap[W5.heap.size + 1]?=some (.loop rec):=by
   rw [← hWl];have:=World.alloc_heap_new (W5.alloc (.deferred (some []))) (.loop rec);rwa [World.size_alloc] at this
 have hD:Wl.heap[W5.heap.size]?=some (.deferred (some [])):=by
   rw [← hWl];exact (Below.heap_alloc _ _ _ (by simp)).trans (World.alloc_heap_new W5 _)
 have hb:∀ b,b < W5.heap.size→Wl.heap[b]?=W5.heap[b]?:=fun b hb=>by
   rw [← hWl];exact (Below.heap_alloc _ _ _ (by simp;omega)).trans (Below.heap_alloc _ _ _ hb)
 have hsz:Wl.heap.size=W5.heap.size + 2:=by rw [← hWl];simp
 have ho:Wl.os=W5.os:=by rw [← hWl];rfl
 have ht:Wl.tape=W5.tape:=by rw [← hWl];rfl
 have hpp:Wl.output=W5.output:=by rw [← hWl];rfl
 have F6:=F5.grow (W':=Wl) (fun c=>c=W5.heap.size∨c=W5.heap.size + 1) hb (fun b h=>by omega) ho ht hpp (by omega)
 have nD:¬ B.F W5.heap.size:=fun h=>Nat.lt_irrefl _ (F5.frame _ h).2
 have nL:¬ B.F (W5.heap.size + 1):=fun h=>by have:=(F5.frame _ h).2;omega
 -- the iterator
 have hi:=post_eq (W5.heap.size + 1)
 unfold post at hi
 obtain ⟨ae,H6,o6,hi,hent,hc⟩:=hx _ _ _ _ _ _ w5 hi
 cases ae with
 | panic _=>cases hi
 | ret u =>
 have hi:exC Pg 53 exI pu C5 fin5 E4 H6=some ():=hi
 obtain ⟨x,E7,H7,o7,hi,c7⟩:=exC_ok (pu:=pu) hx C5 _ _ _ (o6.own w5) hi
 have hfin:x=.ret∧XE.get E7 6=.slc none 0∧XE.get E7 7=.int .u64 1:=by
   unfold fin5 at hi
   cases x <;> first | (cases hi;done) | skip
   obtain ⟨hb,_⟩:=bif_some hi
   rw [Bool.and_eq_true] at hb
   exact ⟨rfl,sameV_eq _ _ hb.1,sameV_eq _ _ hb.2⟩
 obtain ⟨rfl,g6,g7⟩:=hfin
 have hρ:=rel_opnd r5 (.tmp 31)
 rw [show opnd e5 (.tmp 31)=.fn (.func 266) [] [sP] from (s5 31).trans slot31] at hρ
 obtain ⟨fa,fb,hf1,hf2,hf3⟩:=rel_fn hρ
 simp only [relL] at hf2
 subst hf2
 refine ⟨W5.heap.size + 1,[{ target:=.collected W5.heap.size,args:=#[] }],Wl,{ target:=.fn (.func 266) fb.toArray,args:=#[.func (.yield (W5.heap.size + 1)) #[] #[]] },Wl,266,
   #[.func (.yield (W5.heap.size + 1)) #[] #[]]++fb.toArray,Wl,?_,?_,fun _ _=>trivial,?_,fun h=>by simp [Fence.wide] at h,?_⟩
 · rw [← hWl,hrec];exact run_enterLoop_outer _ _ _ _ _
 · simp only [resolve,hf1]
   simp [go_sem]
 · exact run_callFunc hent _ Wl
 have ry:rel Pg ι5 (.fn (.yield (W5.heap.size + 1)) [] []) (.func (.yield (W5.heap.size + 1)) #[] #[]):=.inr ⟨rfl,[],[],rfl,rfl,rfl⟩
 have hcall:=hc _ ι5 Wl (.func (.yield (W5.heap.size + 1)) #[] #[] :: fb) F6 (relL_cons ry hf3)
 have harr:(Value.func (.yield (W5.heap.size + 1)) #[] #[] :: fb).toArray=#[.func (.yield (W5.heap.size + 1)) #[] #[]]++fb.toArray:=by simp
 rw [harr] at hcall
 refine callsIn_wide.2 (hcall.mono ?_)
 rintro e W6 ⟨ι6,h6,ae',l6,F7,re,rfl,rfl⟩
 cases e with
 | panicked _=>exact re.elim
 | outgrown=>exact re.elim
 | returned v =>
 have hL6:W6.heap[W5.heap.size + 1]?=some (.loop rec):=(F7.frame _ (.inr (.inr rfl))).1.trans hL
 refine ⟨none,W6.putObj (W5.heap.size + 1) (.loop { rec with state:=.exhausted }),?_,?_⟩
 · have:=run_endLoop (P:=Pg) hL6 (by rw [hrec];simp)
   rw [this,hrec]
 -- the rest
 obtain ⟨W7,hW7⟩:∃ W7,W6.putObj (W5.heap.size + 1) (.loop { rec with state:=.exhausted })=W7:=⟨_,rfl⟩
 rw [hW7]
 have F8:Fits Pg ⟨fun c=>B.F c∨c=W5.heap.size,Wl⟩ ι6 H6.ah W7:=by
   rw [← hW7]
   refine fits_put (Fits.rebase (B':=⟨fun c=>B.F c∨(c=W5.heap.size∨c=W5.heap.size + 1),Wl⟩) ⟨fun c hc=>⟨hc.elim .inl fun h=>.inr (.inl h),rfl⟩,rfl,rfl,rfl,Nat.le_refl _⟩ F7) hL6 ⟨fun _ _ _ h=>(by cases h),fun _ _ h=>(by cases h),fun _ _ h=>(by cases h),fun _ _ _ _ h=>(by cases h)⟩ ?_
   rintro (h | h)
   · exact nL h
   · omega
 have r5':=relE_le l6 r5
 have hdef:a5.defers=[]:=r5'.2.1
 have r8:relE Pg ι6 53 [(Pg.funcs.size,[.agg [.und,.int .u64 (W5.heap.size:Int)]])] e5 { a5 with defers:=[{ target:=.collected W5.heap.size,args:=#[] }]++a5.defers } :=
   ⟨r5'.1,⟨_,_,rfl,.inr ⟨Nat.le_refl _,W5.heap.size,rfl,rfl⟩,hdef⟩,r5'.2.2⟩
 show C5.wp Pg _ _ _
 refine wp_mono (vc_ok okP C5 _ (fun x e h=>x=.ret∧Same e E7∧h=H7.ah) ι6 H6.ah W7 e5 _ F8 r8 (c7 e5 s5 _ fun e' h=>⟨rfl,h,rfl⟩)) ?_
 rintro x a w ⟨ι',h',e',ax,p1,p2,p3,p4,rfl,p6,rfl⟩
 cases x with
 | ret =>
   obtain ⟨d,rest,hd,hx8,hr8⟩:=p3.2.1
   have hdm:d={ target:=.collected W5.heap.size,args:=#[] }:=by
     rcases hx8 with ⟨cap,_,hbad⟩ | ⟨_,r,hr,hd⟩
     · exfalso
       obtain ⟨y,ys,h1,_,_⟩:=relL_cons_iff.1 hbad
       rcases h1 with h1 | ⟨_,h1⟩
       · cases h1
       · simp only [relC,relCs] at h1
         obtain ⟨_,_,h1,_⟩:=h1
         exact h1
     · simp only [List.cons.injEq,V.agg.injEq,V.int.injEq,true_and,and_true] at hr
       have:W5.heap.size=r:=by omega
       rw [this];exact hd
   have hrest:rest=[]:=hr8
   have hDw:w.heap[W5.heap.size]?=some (.deferred (some [])):=(p2.frame _ (.inr rfl)).1.trans hD
   have F9:Fits Pg ⟨fun c=>B.F c∨False,Wl⟩ ι' H7.ah (w.putObj W5.heap.size (.deferred none)):=by
     refine fits_put (Fits.rebase (B':=⟨fun c=>B.F c∨c=W5.heap.size,Wl⟩) ⟨fun c hc=>⟨hc.elim .inl fun h=>h.elim,rfl⟩,rfl,rfl,rfl,Nat.le_refl _⟩ p2) hDw ⟨fun _ _ _ h=>(by cases h),fun _ _ h=>(by cases h),fun _ _ h=>(by cases h),fun _ _ _ _ h=>(by cases h)⟩ ?_
     rintro (h | h)
     · exact nD h
     · exact h
   have hres:aRes Pg e' H7.ah Tryz.f155.results.toList=some [.slc none 0,.int .u64 1]:=by
     show aRes Pg e' H7.ah [.tmp 6,.tmp 7]=_
     simp only [aRes,p6 6,p6 7,g6,g7]
   obtain ⟨v,hv1,hv2⟩:=run_results okP F9 p3 hres
   show LeavesInM Fence.wide 0 Pg Tryz.f155 a.tmps _ a.defers .returning w
   rw [hd,hdm,hrest]
   refine ⟨by simp,.inl ⟨W5.heap.size,_,rfl,run_takeDeferred hDw,?_⟩⟩
   exact ⟨v,hv1,ι',H7.ah,.ret (one [.slc none 0,.int .u64 1]),Names.le_trans ll (Names.le_trans l6 p1),F9.rebase (BaseLe.grow F5 (fun _=>False) hb ho ht hpp (by omega)),hv2,rfl⟩
 | _=>exact p4.elim
theorem itemsP (hh:HdOk Pg hd) (h:AH):ACalls Pg 155 args h (pureE (.tup [.slc none 0,.int .u64 1]) h):=lift_nil rfl rfl (itemsC0 hh) h
end Go.Proofs.YtcglbpjpbjaecaaGreat.It
namespace Go.Proofs.YtcglbpjpbjaecaaGreat.So
open Go Go.Ab Go.RowKit Go.Proofs
open Go.Proofs.YtcglbpjpbjaecaaGreat.Ru (Pg okP)
set_option maxRecDepth 100000
def slRen:Go.Shelf.Ren:=⟨fun | 6=>161 | 10=>238 | 11=>239 | 12=>240 | 13=>241 | 14=>242 | 24=>276 | 25=>277 | 26=>278 | 27=>279 | 28=>280 | 29=>281 | 30=>282 | 31=>283 | 32=>284 | 33=>285 | 34=>295 | 35=>296 | 36=>297 | 37=>298 | 38=>299 | 39=>304 | n=>n,fun | 20=>20 | 26=>298 | 35=>386 | 0=>0 | 37=>388 | 3=>3 | 41=>330 | 44=>393 | 49=>31 | 51=>49 | 4=>4 | 54=>429 | 53=>428 | 58=>124 | 5=>5 | 9=>9 | 60=>436 | 64=>439 | 66=>444 | 67=>445 | 17=>17 | 32=>383 | 33=>384 | 82=>458 | 12=>12 | 75=>452 | 76=>453 | 77=>454 | 78=>346 | 79=>455 | 80=>456 | n=>n,fun n=>n⟩
theorem slLay:LaysGg.n6 Tryz.prog slRen:={
 mixed:=by kernel_rfl,
 f6:=Tryz.func161.trans (congrArg some (by kernel_rfl)),
 f10:=Tryz.func238.trans (congrArg some (by kernel_rfl)),
 f11:=Tryz.func239.trans (congrArg some (by kernel_rfl)),
 f12:=Tryz.func240.trans (congrArg some (by kernel_rfl)),
 f13:=Tryz.func241.trans (congrArg some (by kernel_rfl)),
 f14:=Tryz.func242.trans (congrArg some (by kernel_rfl)),
 f24:=Tryz.func276.trans (congrArg some (by kernel_rfl)),
 f25:=Tryz.func277.trans (congrArg some (by kernel_rfl)),
 f26:=Tryz.func278.trans (congrArg some (by kernel_rfl)),
 f27:=Tryz.func279.trans (congrArg some (by kernel_rfl)),
 f28:=Tryz.func280.trans (congrArg some (by kernel_rfl)),
 f29:=Tryz.func281.trans (congrArg some (by kernel_rfl)),
 f30:=Tryz.func282.trans (congrArg some (by kernel_rfl)),
 f31:=Tryz.func283.trans (congrArg some (by kernel_rfl)),
 f32:=Tryz.func284.trans (congrArg some (by kernel_rfl)),
 f33:=Tryz.func285.trans (congrArg some (by kernel_rfl)),
 f34:=Tryz.func295.trans (congrArg some (by kernel_rfl)),
 f35:=Tryz.func296.trans (congrArg some (by kernel_rfl)),
 f36:=Tryz.func297.trans (congrArg some (by kernel_rfl)),
 f37:=Tryz.func298.trans (congrArg some (by kernel_rfl)),
 f38:=Tryz.func299.trans (congrArg some (by kernel_rfl)),
 f39:=Tryz.func304.trans (congrArg some (by kernel_rfl)),
 t0:=Tryz.underlying0,
 a0:=Tryz.isAgg0,
 z0:=Tryz.sizeOf0,
 v0:=Tryz.zeroValue0,
 i0:=by kernel_rfl,
 t3:=Tryz.underlying3,
 a3:=Tryz.isAgg3,
 z3:=Tryz.sizeOf3,
 v3:=Tryz.zeroValue3,
 i3:=by kernel_rfl,
 t4:=Tryz.underlying4,
 a4:=Tryz.isAgg4,
 z4:=Tryz.sizeOf4,
 v4:=Tryz.zeroValue4,
 i4:=by kernel_rfl,
 t5:=Tryz.underlying5,
 a5:=Tryz.isAgg5,
 z5:=Tryz.sizeOf5,
 v5:=Tryz.zeroValue5,
 i5:=by kernel_rfl,
 t9:=Tryz.underlying9,
 a9:=Tryz.isAgg9,
 z9:=Tryz.sizeOf9,
 v9:=Tryz.zeroValue9,
 i9:=by kernel_rfl,
 t12:=Tryz.underlying12,
 a12:=Tryz.isAgg12,
 z12:=Tryz.sizeOf12,
 v12:=Tryz.zeroValue12,
 i12:=by kernel_rfl,
 t17:=Tryz.underlying17,
 a17:=Tryz.isAgg17,
 z17:=Tryz.sizeOf17,
 v17:=Tryz.zeroValue17,
 i17:=by kernel_rfl,
 t20:=Tryz.underlying20,
 a20:=Tryz.isAgg20,
 z20:=Tryz.sizeOf20,
 v20:=Tryz.zeroValue20,
 i20:=by kernel_rfl,
 t26:=Tryz.underlying298,
 a26:=Tryz.isAgg298,
 z26:=Tryz.sizeOf298,
 v26:=Tryz.zeroValue298,
 i26:=by kernel_rfl,
 t32:=Tryz.underlying383,
 a32:=Tryz.isAgg383,
 z32:=Tryz.sizeOf383,
 v32:=Tryz.zeroValue383,
 i32:=by kernel_rfl,
 t33:=Tryz.underlying384,
 a33:=Tryz.isAgg384,
 z33:=Tryz.sizeOf384,
 v33:=Tryz.zeroValue384,
 i33:=by kernel_rfl,
 t35:=Tryz.underlying386,
 a35:=Tryz.isAgg386,
 z35:=Tryz.sizeOf386,
 v35:=Tryz.zeroValue386,
 i35:=by kernel_rfl,
 t37:=Tryz.underlying388,
 a37:=Tryz.isAgg388,
 z37:=Tryz.sizeOf388,
 v37:=Tryz.zeroValue388,
 i37:=by kernel_rfl,
 t41:=Tryz.underlying330,
 a41:=Tryz.isAgg330,
 z41:=Tryz.sizeOf330,
 v41:=Tryz.zeroValue330,
 i41:=by kernel_rfl,
 t44:=Tryz.underlying393,
 a44:=Tryz.isAgg393,
 z44:=Tryz.sizeOf393,
 v44:=Tryz.zeroValue393,
 i44:=by kernel_rfl,
 t49:=Tryz.underlying31,
 a49:=Tryz.isAgg31,
 z49:=Tryz.sizeOf31,
 v49:=Tryz.zeroValue31,
 i49:=by kernel_rfl,
 t51:=Tryz.underlying49,
 a51:=Tryz.isAgg49,
 z51:=Tryz.sizeOf49,
 v51:=Tryz.zeroValue49,
 i51:=by kernel_rfl,
 t53:=Tryz.underlying428,
 a53:=Tryz.isAgg428,
 z53:=Tryz.sizeOf428,
 v53:=Tryz.zeroValue428,
 i53:=by kernel_rfl,
 t54:=Tryz.underlying429,
 a54:=Tryz.isAgg429,
 z54:=Tryz.sizeOf429,
 v54:=Tryz.zeroValue429,
 i54:=by kernel_rfl,
 t58:=Tryz.underlying124,
 a58:=Tryz.isAgg124,
 z58:=Tryz.sizeOf124,
 v58:=Tryz.zeroValue124,
 i58:=by kernel_rfl,
 t60:=Tryz.underlying436,
 a60:=Tryz.isAgg436,
 z60:=Tryz.sizeOf436,
 v60:=Tryz.zeroValue436,
 i60:=by kernel_rfl,
 t64:=Tryz.underlying439,
 a64:=Tryz.isAgg439,
 z64:=Tryz.sizeOf439,
 v64:=Tryz.zeroValue439,
 i64:=by kernel_rfl,
 t66:=Tryz.underlying444,
 a66:=Tryz.isAgg444,
 z66:=Tryz.sizeOf444,
 v66:=Tryz.zeroValue444,
 i66:=by kernel_rfl,
 t67:=Tryz.underlying445,
 a67:=Tryz.isAgg445,
 z67:=Tryz.sizeOf445,
 v67:=Tryz.zeroValue445,
 i67:=by kernel_rfl,
 t75:=Tryz.underlying452,
 a75:=Tryz.isAgg452,
 z75:=Tryz.sizeOf452,
 v75:=Tryz.zeroValue452,
 i75:=by kernel_rfl,
 t76:=Tryz.underlying453,
 a76:=Tryz.isAgg453,
 z76:=Tryz.sizeOf453,
 v76:=Tryz.zeroValue453,
 i76:=by kernel_rfl,
 t77:=Tryz.underlying454,
 a77:=Tryz.isAgg454,
 z77:=Tryz.sizeOf454,
 v77:=Tryz.zeroValue454,
 i77:=by kernel_rfl,
 t78:=Tryz.underlying346,
 a78:=Tryz.isAgg346,
 z78:=Tryz.sizeOf346,
 v78:=Tryz.zeroValue346,
 i78:=by kernel_rfl,
 t79:=Tryz.underlying455,
 a79:=Tryz.isAgg455,
 z79:=Tryz.sizeOf455,
 v79:=Tryz.zeroValue455,
 i79:=by kernel_rfl,
 t80:=Tryz.underlying456,
 a80:=Tryz.isAgg456,
 z80:=Tryz.sizeOf456,
 v80:=Tryz.zeroValue456,
 i80:=by kernel_rfl,
 t82:=Tryz.underlying458,
 a82:=Tryz.isAgg458,
 z82:=Tryz.sizeOf458,
 v82:=Tryz.zeroValue458,
 i82:=by kernel_rfl }
noncomputable def siT:TypeInfo:=(Pg.info? 167).get (by kernel_rfl)
noncomputable def siE:TypeInfo:=(Pg.info? 170).get (by kernel_rfl)
theorem kind170 (w:World):Sem.run Pg (Extern.Rtype.kind 170) w=.ok 25 w:=by kernel_rfl
theorem swp (n:Nat) (h:n≤1):Pg.funcs.findIdx? (·.name == "internal/reflectlite"++".Swapper$"++toString (Lib.swapperK n siE 25))=some (267 + n):=by
 rcases Nat.eq_zero_or_pos n with h0 | h0
 · subst h0;kernel_rfl
 · obtain rfl:n=1:=by omega
   kernel_rfl
theorem tiny (p:Option Addr) (n c:Nat) (h:n≤1) (lf:Fn) (la lb:Array Value) (w:World) :
   Calls Pg 161 #[.iface 167 (.slice p n c),.func lf la lb] w fun e w'=>e=.returned (.tuple #[])∧∃ os,w'=Go.Sort.grow w os :=
 Any.sort_Slice_tiny slLay 167 170 siT siE (by kernel_rfl) (by kernel_rfl) (by kernel_rfl) (by kernel_rfl) 25 kind170 p n c h (267 + n) (swp n h) lf la lb w
theorem sortP (a:Option (PA × Nat)) (n:Nat) (hn:n≤1) (f:Fn) (x y:List V) (h:AH):ACalls Pg 161 [.ifc 167 (.slc a n),.fn f x y] h (pureE (.tup []) h):=by
 intro B ι W vs F r
 obtain ⟨v0,vs0,h0,r0,rfl⟩:=relL_cons_iff.1 r
 obtain ⟨v1,vs1,h1,r1,rfl⟩:=relL_cons_iff.1 r0
 simp only [relL] at r1
 subst r1
 obtain ⟨z,rfl,hz,_⟩:=rel_ifc h0
 obtain ⟨fa,fb,rfl,_,_⟩:=rel_fn h1
 obtain ⟨p,c,rfl⟩:∃ p c,z=.slice p n c:=by
   cases a with
   | none=>obtain ⟨rfl,rfl⟩:=rel_slc_nil hz;exact ⟨none,0,rfl⟩
   | some a=>obtain ⟨q,cap,rfl,_⟩:=rel_slc (a:=a.1) (s:=a.2) hz;exact ⟨some q,cap,rfl⟩
 refine (tiny p n c hn f fa.toArray fb.toArray W).mono ?_
 rintro e w' ⟨rfl,os,rfl⟩
 have hold:∀ b,b < W.heap.size→(Go.Sort.grow W os).heap[b]?=W.heap[b]?:=fun b hb=>Go.Sort.heap_grow_old W os hb
 have hs:W.heap.size≤(Go.Sort.grow W os).heap.size:=by simp
 refine ⟨ι,h,.ret (.tup []),Names.le_refl _,?_,.inr ⟨rfl,[],by simp [relL],by simp [Value.cells]⟩,rfl,rfl⟩
 exact (F.grow (fun _=>False) hold (fun _ h=>h.elim) rfl rfl rfl hs).rebase (BaseLe.grow F _ hold rfl rfl rfl hs)
noncomputable def siT2:TypeInfo:=(Pg.info? 193).get (by kernel_rfl)
noncomputable def siE2:TypeInfo:=(Pg.info? 22).get (by kernel_rfl)
theorem kind22 (w:World):Sem.run Pg (Extern.Rtype.kind 22) w=.ok 9 w:=by kernel_rfl
theorem swp2 (n:Nat) (h:n≤1):Pg.funcs.findIdx? (·.name == "internal/reflectlite"++".Swapper$"++toString (Lib.swapperK n siE2 9))=some (267 + n):=by
 rcases Nat.eq_zero_or_pos n with h0 | h0
 · subst h0;kernel_rfl
 · obtain rfl:n=1:=by omega
   kernel_rfl
theorem tiny2 (p:Option Addr) (n c:Nat) (h:n≤1) (lf:Fn) (la lb:Array Value) (w:World) :
   Calls Pg 161 #[.iface 193 (.slice p n c),.func lf la lb] w fun e w'=>e=.returned (.tuple #[])∧∃ os,w'=Go.Sort.grow w os :=
 Any.sort_Slice_tiny slLay 193 22 siT2 siE2 (by kernel_rfl) (by kernel_rfl) (by kernel_rfl) (by kernel_rfl) 9 kind22 p n c h (267 + n) (swp2 n h) lf la lb w
theorem sortP2 (a:Option (PA × Nat)) (n:Nat) (hn:n≤1) (f:Fn) (x y:List V) (h:AH):ACalls Pg 161 [.ifc 193 (.slc a n),.fn f x y] h (pureE (.tup []) h):=by
 intro B ι W vs F r
 obtain ⟨v0,vs0,h0,r0,rfl⟩:=relL_cons_iff.1 r
 obtain ⟨v1,vs1,h1,r1,rfl⟩:=relL_cons_iff.1 r0
 simp only [relL] at r1
 subst r1
 obtain ⟨z,rfl,hz,_⟩:=rel_ifc h0
 obtain ⟨fa,fb,rfl,_,_⟩:=rel_fn h1
 obtain ⟨p,c,rfl⟩:∃ p c,z=.slice p n c:=by
   cases a with
   | none=>obtain ⟨rfl,rfl⟩:=rel_slc_nil hz;exact ⟨none,0,rfl⟩
   | some a=>obtain ⟨q,cap,rfl,_⟩:=rel_slc (a:=a.1) (s:=a.2) hz;exact ⟨some q,cap,rfl⟩
 refine (tiny2 p n c hn f fa.toArray fb.toArray W).mono ?_
 rintro e w' ⟨rfl,os,rfl⟩
 have hold:∀ b,b < W.heap.size→(Go.Sort.grow W os).heap[b]?=W.heap[b]?:=fun b hb=>Go.Sort.heap_grow_old W os hb
 have hs:W.heap.size≤(Go.Sort.grow W os).heap.size:=by simp
 refine ⟨ι,h,.ret (.tup []),Names.le_refl _,?_,.inr ⟨rfl,[],by simp [relL],by simp [Value.cells]⟩,rfl,rfl⟩
 exact (F.grow (fun _=>False) hold (fun _ h=>h.elim) rfl rfl rfl hs).rebase (BaseLe.grow F _ hold rfl rfl rfl hs)
end Go.Proofs.YtcglbpjpbjaecaaGreat.So
namespace Go.Proofs.YtcglbpjpbjaecaaGreat.Sh
open Go Go.Ab Go.RowKit
open Go.Proofs.YtcglbpjpbjaecaaGreat.Ru (Pg okP)
set_option maxRecDepth 100000
noncomputable def B265:Code:=(Tryz.f265.body).getD .skip
def R265:List ResultVar:=[.tmp 4]
abbrev N265:Nat:=28
def K265:KT:=(.seq .leaf (.seq .leaf (.join (.seq .leaf (.one (.loop (.join (.seq .leaf (.two .leaf .leaf) [1,5,6,12]) (.join (.one (.seq .leaf (.seq .leaf (.one (.loop (.seq .leaf (.join (.two .leaf .leaf) (.join (.one .leaf) .leaf [1,5,6,21]) [1,5,6,21]) [1,5,6,21,22]) [1,5,6,21])) [1,5,6,21]) [1,5,6])) .leaf [1,5,6]) [1,5,6]) [1,5,6])) [1,5,6]) (.seq .leaf .leaf [4]) [5]) [1,5]) [0,1])
def Jz2z (Q:AEnd→AH→Prop) (n n1:Nat) (x1 x5 x6 x21:V) (h:AH):Prop:=vcAt Pg N265 B265 K265 [1,1,0,1,0,0,1,0,0,1,1,0,0,1,1,1] [n,n1] (vcRet Pg R265 Q) [(1,x1),(5,x5),(6,x6),(21,x21)] h
def Jz2y (Q:AEnd→AH→Prop) (n n1:Nat) (x1 x5 x6 x21:V) (h:AH):Prop:=vcAt Pg N265 B265 K265 [1,1,0,1,0,0,1,0,0,1,1,0,0,1,1] [n,n1] (vcRet Pg R265 Q) [(1,x1),(5,x5),(6,x6),(21,x21)] h
def Jz30 (Q:AEnd→AH→Prop) (n:Nat) (x1 x5 x6:V) (h:AH):Prop:=vcAt Pg N265 B265 K265 [1,1,0,1,0,0,1,1] [n] (vcRet Pg R265 Q) [(1,x1),(5,x5),(6,x6)] h
def Lz3z (Q:AEnd→AH→Prop) (n:Nat) (n1:Nat) (x1 x5 x6 x21:V) (h:AH):Prop:=loopAt Pg N265 B265 K265 [1,1,0,1,0,0,1,0,0,1,1,0] [n] n1 (vcRet Pg R265 Q) [(1,x1),(5,x5),(6,x6),(21,x21)] h
def Jz2x (Q:AEnd→AH→Prop) (n:Nat) (x1 x5 x6:V) (h:AH):Prop:=vcAt Pg N265 B265 K265 [1,1,0,1,0,0,1] [n] (vcRet Pg R265 Q) [(1,x1),(5,x5),(6,x6)] h
def Jz31 (Q:AEnd→AH→Prop) (x5:V) (h:AH):Prop:=vcAt Pg N265 B265 K265 [1,1,1] [] (vcRet Pg R265 Q) [(5,x5)] h
def Lz3y (Q:AEnd→AH→Prop) (n:Nat) (x1 x5 x6:V) (h:AH):Prop:=loopAt Pg N265 B265 K265 [1,1,0,1,0] [] n (vcRet Pg R265 Q) [(1,x1),(5,x5),(6,x6)] h
theorem Jz2z_eq (Q:AEnd→AH→Prop) (n n1:Nat) (x1 x5 x6 x21:V) (h:AH):Jz2z Q n n1 x1 x5 x6 x21 h=(
 bindV (still (aBin Pg .add 3 x21 (V.int .i64 1) true) h) fun v17 h18 =>
 Meet (Lz3z Q n n1 x1 x5 x6 v17 h18)):=by kernel_rfl
theorem Jz2y_eq (Q:AEnd→AH→Prop) (n n1:Nat) (x1 x5 x6 x21:V) (h:AH):Jz2y Q n n1 x1 x5 x6 x21 h=(
 ACalls Pg 294 [x5] h (aEnd (fun v15 h16 =>
 Meet (Jz2z Q n n1 x1 v15 x6 x21 h16)) fun v h=>Q (.panic v) h)):=by kernel_rfl
theorem Jz30_eq (Q:AEnd→AH→Prop) (n:Nat) (x1 x5 x6:V) (h:AH):Jz30 Q n x1 x5 x6 h=(
 bindV (still (aBin Pg .add 3 x6 (V.int .i64 1) true) h) fun v19 h20 =>
 Meet (Lz3y Q n x1 x5 v19 h20)):=by kernel_rfl
theorem Lz3z_eq (Q:AEnd→AH→Prop) (n:Nat) (n1:Nat) (x1 x5 x6 x21:V) (h:AH):Lz3z Q n (n1 + 1) x1 x5 x6 x21 h=(
 bindV (still (aBin Pg .lss 3 x21 (V.int .i64 8) true) h) fun v13 h14 =>
 vcIf v13 (
 Meet (Jz2y Q n n1 x1 x5 x6 x21 h14)) (
 Meet (Jz30 Q n x1 x5 x6 h14))):=by kernel_rfl
theorem Jz2x_eq (Q:AEnd→AH→Prop) (n:Nat) (x1 x5 x6:V) (h:AH):Jz2x Q n x1 x5 x6 h=(
 bindV (still (aIndex Pg 9 x1 x6) h) fun v7 h8 =>
 bindV (still (aConv Pg h8 5 31 v7) h8) fun v9 h10 =>
 bindV (still (aBin Pg .xor 31 x5 v9 false) h10) fun v11 h12 =>
 ∃ n1,Meet (Lz3z Q n n1 x1 v11 x6 (V.int .i64 0) h12)):=by kernel_rfl
theorem Jz31_eq (Q:AEnd→AH→Prop) (x5:V) (h:AH):Jz31 Q x5 h=(
 bindV (still (aUn .xor x5) h) fun v21 h22 =>
 Q (.ret v21) h22):=by kernel_rfl
theorem Lz3y_eq (Q:AEnd→AH→Prop) (n:Nat) (x1 x5 x6:V) (h:AH):Lz3y Q (n + 1) x1 x5 x6 h=(
 bindV (aBuiltin Pg h .len [9] [x1]) fun v3 h4 =>
 bindV (still (aBin Pg .lss 3 x6 v3 false) h4) fun v5 h6 =>
 vcIf v5 (
 Meet (Jz2x Q n x1 x5 x6 h6)) (
 Meet (Jz31 Q x5 h6))):=by kernel_rfl
theorem S265 (Q:AEnd→AH→Prop) (a0 a1:V) (h:AH):vc Pg N265 B265 K265 (vcRet Pg R265 Q) (initEnv 0 [a0,a1]) h=(
 bindV (still (aUn .xor a0) h) fun v1 h2 =>
 ∃ n,Meet (Lz3y Q n a1 v1 (V.int .i64 0) h2)):=by kernel_rfl
theorem C265 (Q:AEnd→AH→Prop) (a0 a1:V) (h:AH) (c :
 bindV (still (aUn .xor a0) h) fun v1 h2 =>
 ∃ n,Meet (Lz3y Q n a1 v1 (V.int .i64 0) h2)):ACalls Pg 265 [a0,a1] h Q :=
 acalls_of_vc okP Tryz.func265 (show Tryz.f265.body=some B265 from by kernel_rfl) K265 (by rw [← S265 Q a0 a1 h] at c;exact c)
noncomputable def B294:Code:=(Tryz.f294.body).getD .skip
def R294:List ResultVar:=[.tmp 2]
abbrev N294:Nat:=10
def K294:KT:=(.seq .leaf (.seq .leaf .leaf [2]) [0])
theorem S294 (Q:AEnd→AH→Prop) (a0:V) (h:AH):vc Pg N294 B294 K294 (vcRet Pg R294 Q) (initEnv 0 [a0]) h=(
 bindV (still (aBin Pg .shr 31 a0 (V.int .u64 1) true) h) fun v1 h2 =>
 bindV (still (aBin Pg .and 31 a0 (V.int .u32 1) true) h2) fun v3 h4 =>
 bindV (still (aUn .neg v3) h4) fun v5 h6 =>
 bindV (still (aBin Pg .and 31 (V.int .u32 3988292384) v5 true) h6) fun v7 h8 =>
 bindV (still (aBin Pg .xor 31 v1 v7 false) h8) fun v9 h10 =>
 Q (.ret v9) h10):=by kernel_rfl
theorem C294 (Q:AEnd→AH→Prop) (a0:V) (h:AH) (c :
 bindV (still (aBin Pg .shr 31 a0 (V.int .u64 1) true) h) fun v1 h2 =>
 bindV (still (aBin Pg .and 31 a0 (V.int .u32 1) true) h2) fun v3 h4 =>
 bindV (still (aUn .neg v3) h4) fun v5 h6 =>
 bindV (still (aBin Pg .and 31 (V.int .u32 3988292384) v5 true) h6) fun v7 h8 =>
 bindV (still (aBin Pg .xor 31 v1 v7 false) h8) fun v9 h10 =>
 Q (.ret v9) h10):ACalls Pg 294 [a0] h Q :=
 acalls_of_vc okP Tryz.func294 (show Tryz.f294.body=some B294 from by kernel_rfl) K294 (by rw [← S294 Q a0 h] at c;exact c)
end Go.Proofs.YtcglbpjpbjaecaaGreat.Sh
namespace Go.Proofs.YtcglbpjpbjaecaaGreat.Sh
open Go Go.Ab Go.RowKit
open Go.Proofs.YtcglbpjpbjaecaaGreat.Ru (Pg okP crcStep crc8 crcGo)
set_option maxRecDepth 10000
theorem bv32 (v:Nat) (h:v < 4294967296):(BitVec.ofInt 32 (v:Int)).toNat=v:=by
 rw [BitVec.toNat_ofInt]
 have:((v:Int) % ((2 ^ 32:Nat):Int)).toNat=v % 2 ^ 32:=by omega
 rw [this];exact Nat.mod_eq_of_lt (by simpa using h)
theorem xor32 (a b:Nat) (ha:a < 4294967296) (hb:b < 4294967296):bitI .xor .u32 (a:Int) (b:Int)=((Nat.xor a b:Nat):Int)∧Nat.xor a b < 4294967296:=by
 have h3:(a ^^^ b) < 2 ^ 32:=Nat.xor_lt_two_pow (by simpa using ha) (by simpa using hb)
 have h4:(a ^^^ b) < 4294967296:=by simpa using h3
 refine ⟨?_,h4⟩
 simp only [bitI]
 have:((BitVec.ofInt IntKind.u32.bits (a:Int) ^^^ BitVec.ofInt IntKind.u32.bits (b:Int)).toNat)=a ^^^ b:=by
   show (BitVec.ofInt 32 (a:Int) ^^^ BitVec.ofInt 32 (b:Int)).toNat=a ^^^ b
   rw [BitVec.toNat_xor,bv32 a ha,bv32 b hb]
 rw [this,wrap_u32]
 show _=((a ^^^ b:Nat):Int)
 exact Int.emod_eq_of_lt (by omega) (by omega)
theorem and1 (a:Nat) (ha:a < 4294967296):bitI .and .u32 (a:Int) 1=((a % 2:Nat):Int):=by
 simp only [bitI]
 have:((BitVec.ofInt IntKind.u32.bits (a:Int) &&& BitVec.ofInt IntKind.u32.bits 1).toNat)=a % 2:=by
   show (BitVec.ofInt 32 (a:Int) &&& BitVec.ofInt 32 ((1:Nat):Int)).toNat=a % 2
   rw [BitVec.toNat_and,bv32 a ha,bv32 1 (by decide),Nat.and_one_is_mod]
 rw [this,wrap_u32]
 exact Int.emod_eq_of_lt (by omega) (by omega)
theorem step_eq (x:Nat):crcStep x=Nat.xor (x / 2) (3988292384 * (x % 2)):=by
 unfold crcStep
 have h1:Nat.shiftRight x 1=x / 2:=rfl
 have h2:Nat.land x 1=x % 2:=Nat.and_one_is_mod x
 rw [h1,h2]
 rfl
theorem step_lt (x:Nat) (hx:x < 4294967296):crcStep x < 4294967296:=by
 rw [step_eq]
 have h:3988292384 * (x % 2) < 4294967296:=by omega
 exact (xor32 (x / 2) _ (by omega) h).2
theorem stepP (x:Nat) (hx:x < 4294967296) (h:AH):ACalls Pg 294 [.int .u32 (x:Int)] h (pureE (.int .u32 ((crcStep x:Nat):Int)) h):=by
 refine C294 _ _ _ ?_
 refine bindS_mk (b_shr (by decide)) ?_
 have e1:shrI .u32 (x:Int) 1=((x / 2:Nat):Int):=by
   show (x:Int) / 2 ^ 1=_
   omega
 rw [e1]
 refine bindS_mk b_and ?_
 rw [and1 x hx]
 refine bindS_mk (show aUn .neg (.int .u32 ((x % 2:Nat):Int))=some (.int .u32 (IntKind.u32.wrap (0 - ((x % 2:Nat):Int)))) from rfl) ?_
 refine bindS_mk b_and ?_
 have e2:bitI .and .u32 3988292384 (IntKind.u32.wrap (0 - ((x % 2:Nat):Int)))=((3988292384 * (x % 2):Nat):Int):=by
   rcases Nat.mod_two_eq_zero_or_one x with h | h
   · rw [h];decide +kernel
   · rw [h];decide +kernel
 rw [e2]
 refine bindS_mk b_xor ?_
 rw [(xor32 (x / 2) (3988292384 * (x % 2)) (by omega) (by omega)).1,step_eq]
 exact ⟨rfl,rfl⟩
theorem crc8_lt:∀ (n x:Nat),x < 4294967296→crc8 n x < 4294967296
 | 0,x,h=>h
 | n + 1,x,h=>crc8_lt n _ (step_lt x h)
theorem inner (q:AEnd→Prop) (s:V) (i:V) (n1:Nat) (h:AH) (next:Nat→Nat→Prop)
   (c:∀ x,x < 4294967296→next x 0→Jz30 (fun e _=>q e) n1 s (.int .u32 (x:Int)) i h)
   (hn:∀ x m,next x (m + 1)→next (crcStep x) m):∀ (m n x:Nat),m≤8→m < n→x < 4294967296→next x m→Lz3z (fun e _=>q e) n1 n s (.int .u32 (x:Int)) i (.int .i64 ((8 - m:Nat):Int)) h
 | m,0,x,_,hmn,_,_=>absurd hmn (by omega)
 | 0,n + 1,x,_,_,hx,hk=>by
   rw [Lz3z_eq]
   refine bindS_mk (b_lss_f (by omega)) ?_
   refine i_f ?_
   exact Meet.of (c x hx hk)
 | m + 1,n + 1,x,hm,hmn,hx,hk=>by
   rw [Lz3z_eq]
   refine bindS_mk (b_lss_t (by omega)) ?_
   refine i_t ?_
   refine Meet.of (cast_p (Jz2y_eq _ _ _ _ _ _ _ _) ?_)
   refine call_mk (stepP x hx h) ?_
   refine Meet.of (cast_p (Jz2z_eq _ _ _ _ _ _ _ _) ?_)
   refine bindS_mk (c_inc (by omega)) ?_
   have e:8 - (m + 1) + 1=8 - m:=by omega
   rw [e]
   exact Meet.of (inner q s i n1 h next c hn m n (crcStep x) (by omega) (by omega) (step_lt x hx) (hn x m hk))
end Go.Proofs.YtcglbpjpbjaecaaGreat.Sh
namespace Go.Proofs.YtcglbpjpbjaecaaGreat.Sh
open Go Go.Ab Go.RowKit
open Go.Proofs.YtcglbpjpbjaecaaGreat.Ru (Pg okP crcStep crc8 crcGo crcMore)
set_option maxRecDepth 10000
theorem str9:strT Pg 9=true:=by kernel_rfl
theorem crcGo_cons (b:UInt8) (t:List UInt8) (r:Nat):crcGo (b :: t) r=crcGo t (crc8 8 (Nat.xor r b.toNat)):=by
 simp only [crcGo]
 rw [fNat_eq]
theorem outer (q:AEnd→Prop) (h:AH) (s:List UInt8) (hs:s.length < 1000000):∀ (t:List UInt8) (i n r:Nat),s.drop i=t→i + t.length=s.length→t.length < n→r < 4294967296 →
   q (.ret (.int .u32 ((Nat.xor (crcGo t r) 4294967295:Nat):Int)))→Lz3y (fun e _=>q e) n (.str s) (.int .u32 (r:Int)) (.int .i64 (i:Int)) h
 | t,i,0,r,_,_,hn,_,_=>absurd hn (by omega)
 | [],i,n + 1,r,hd,hl,_,hr,c=>by
   rw [Lz3y_eq]
   simp only [List.length_nil] at hl
   refine bindV_mk (len_str (by kernel_rfl)) ?_
   refine bindS_mk (b_lss_f (by omega)) ?_
   refine i_f ?_
   refine Meet.of (cast_p (Jz31_eq _ _ _) ?_)
   refine bindS_mk (show aUn .xor (.int .u32 (r:Int))=some (.int .u32 (bitI .xor .u32 ((4294967295:Nat):Int) (r:Int))) from rfl) ?_
   rw [(xor32 4294967295 r (by decide) hr).1]
   have e:Nat.xor 4294967295 r=Nat.xor (crcGo [] r) 4294967295:=by
     simp only [crcGo]
     exact Nat.xor_comm _ _
   rw [e]
   exact c
 | b :: t,i,n + 1,r,hd,hl,hn,hr,c=>by
   rw [Lz3y_eq]
   simp only [List.length_cons] at hl hn
   have hi:i < s.length:=by omega
   have hb:s.getD i 0=b:=by
     have:=congrArg (fun l=>l[0]?) hd
     simp only [List.getElem?_drop,Nat.add_zero,List.getElem?_cons_zero] at this
     rw [List.getD_eq_getElem?_getD,this];rfl
   have hbt:=b.toNat_lt
   refine bindV_mk (len_str (by kernel_rfl)) ?_
   refine bindS_mk (b_lss_t (by omega)) ?_
   refine i_t ?_
   refine Meet.of (cast_p (Jz2x_eq _ _ _ _ _ _) ?_)
   refine bindS_mk (ix_str str9 hi) ?_
   rw [hb]
   refine bindS_mk (cv_int (d:=31) .u32 (by kernel_rfl)) ?_
   have e1:IntKind.u32.wrap (b.toNat:Int)=(b.toNat:Int):=by rw [wrap_u32];omega
   rw [e1]
   refine bindS_mk b_xor ?_
   have hx:=xor32 r b.toNat hr (by omega)
   rw [hx.1]
   refine ⟨9,Meet.of ?_⟩
   have hlt:=crc8_lt 8 _ hx.2
   refine inner q (.str s) (.int .i64 (i:Int)) n h (fun x m=>crc8 m x=crc8 8 (Nat.xor r b.toNat)) (fun x hx' hk=>?_) (fun x m hk=>hk) 8 9 (Nat.xor r b.toNat) (by omega) (by omega) hx.2 rfl
   have hk:x=crc8 8 (Nat.xor r b.toNat):=hk
   rw [Jz30_eq]
   refine bindS_mk (c_inc (by omega)) ?_
   refine Meet.of ?_
   rw [hk]
   refine outer q h s hs t (i + 1) n _ ?_ (by omega) (by omega) hlt ?_
   · rw [← List.drop_drop,hd];rfl
   · rw [crcGo_cons] at c;exact c
theorem moreP (r:Nat) (hr:r < 4294967296) (s:List UInt8) (hs:s.length < 1000000) (h:AH):ACalls Pg 265 [.int .u32 (r:Int),.str s] h (pureE (.int .u32 ((crcMore r s:Nat):Int)) h):=by
 refine pure_lift rfl rfl (C265 _ _ _ _ ?_) h
 refine bindS_mk (show aUn .xor (.int .u32 (r:Int))=some (.int .u32 (bitI .xor .u32 ((4294967295:Nat):Int) (r:Int))) from rfl) ?_
 have hx:=xor32 4294967295 r (by decide) hr
 rw [hx.1]
 refine ⟨s.length + 1,Meet.of ?_⟩
 refine outer (fun e=>e=.ret (.int .u32 ((crcMore r s:Nat):Int))) AH0 s hs s 0 (s.length + 1) _ rfl (by omega) (by omega) hx.2 ?_
 have e:Nat.xor 4294967295 r=Nat.xor r 4294967295:=Nat.xor_comm _ _
 rw [e]
 rfl
end Go.Proofs.YtcglbpjpbjaecaaGreat.Sh
namespace Go.Proofs.YtcglbpjpbjaecaaGreat.Ru
open Go Go.Ab Go.RowKit
set_option maxRecDepth 10000
noncomputable def hdW:HdF:=fun f a=>match Nat.beq f 161 with
 | true=>(match a with
   | [.ifc t (.slc p n),.fn g x y]=>bif Nat.beq t 167 && Nat.ble n 1 then some (.tup []) else none
   | _=>none)
 | false=>match Nat.beq f 155 with
   | true=>bif sameVs a It.args then some (.tup [.slc none 0,.int .u64 1]) else none
   | false=>hd f a
theorem hdW_ok (hh:HdOk Pg hd):HdOk Pg hdW:=by
 intro f args v hv
 unfold hdW at hv
 split at hv
 · rename_i hf
   obtain rfl:=Nat.eq_of_beq_eq_true hf
   split at hv
   · obtain ⟨hc,hv2⟩:=bif_some hv
     clear hv
     rw [Bool.and_eq_true] at hc
     have h1:=Nat.eq_of_beq_eq_true hc.1
     subst h1
     simp only [Option.some.injEq] at hv2;subst hv2
     exact ⟨by kernel_rfl,fun h=>So.sortP _ _ (Nat.le_of_ble_eq_true hc.2) _ _ _ h⟩
   · cases hv
 · split at hv
   · rename_i hf
     obtain rfl:=Nat.eq_of_beq_eq_true hf
     obtain ⟨hc,hv2⟩:=bif_some hv
     clear hv
     have h1:=sameVs_eq _ _ hc
     subst h1
     simp only [Option.some.injEq] at hv2;subst hv2
     exact ⟨by kernel_rfl,fun h=>It.itemsP hh h⟩
   · exact hh f args v hv
end Go.Proofs.YtcglbpjpbjaecaaGreat.Ru
namespace Go.Proofs.YtcglbpjpbjaecaaGreat.Sh
open Go Go.Ab Go.RowKit
open Go.Proofs.YtcglbpjpbjaecaaGreat.Ru (Pg okP)
set_option maxRecDepth 100000
noncomputable def B246:Code:=(Tryz.f246.body).getD .skip
def R246:List ResultVar:=[.tmp 2]
abbrev N246:Nat:=20
def K246:KT:=(.seq .leaf (.seq .leaf (.join (.seq .leaf (.one (.loop (.seq .leaf (.join (.two .leaf .leaf) (.one (.seq .leaf .leaf [3,4,6])) [3,6]) [3,6,8]) [3,6])) [3,6]) (.seq .leaf (.seq .leaf .leaf [2]) [3]) [3]) [0,3]) [0])
def Jz2u (Q:AEnd→AH→Prop) (n:Nat) (x3 x6:V) (h:AH):Prop:=vcAt Pg N246 B246 K246 [1,1,0,1,0,0,1,1] [n] (vcRet Pg R246 Q) [(3,x3),(6,x6)] h
def Jz2v (Q:AEnd→AH→Prop) (x3:V) (h:AH):Prop:=vcAt Pg N246 B246 K246 [1,1,1] [] (vcRet Pg R246 Q) [(3,x3)] h
def Lz3x (Q:AEnd→AH→Prop) (n:Nat) (x3 x6:V) (h:AH):Prop:=loopAt Pg N246 B246 K246 [1,1,0,1,0] [] n (vcRet Pg R246 Q) [(3,x3),(6,x6)] h
theorem Jz2u_eq (Q:AEnd→AH→Prop) (n:Nat) (x3 x6:V) (h:AH):Jz2u Q n x3 x6 h=(
 vcEntry x6 h fun v9 h10 =>
 bindV (still (aExtract v9 0) h10) fun v11 h12 =>
 bindV (aLoadV Pg h12 193 x3) fun v13 h14 =>
 bindV (aBuildSlice Pg h14 193 1 [(0,v11)]) fun v15 h16 =>
 bindV (aBuiltin Pg h16 .append [193,193] [v13,v15]) fun v17 h18 =>
 bindV (aStoreV Pg h18 193 x3 v17) fun _ h20 =>
 Meet (Lz3x Q n x3 x6 h20)):=by kernel_rfl
theorem Jz2v_eq (Q:AEnd→AH→Prop) (x3:V) (h:AH):Jz2v Q x3 h=(
 bindV (aLoadV Pg h 193 x3) fun v21 h22 =>
 bindV (still (aIface Pg 193 v21) h22) fun v23 h24 =>
 ACalls Pg 161 [v23,(V.fn (.func 286) [] [x3])] h24 (aEnd (fun v25 h26 =>
 bindV (aLoadV Pg h26 193 x3) fun v27 h28 =>
 Q (.ret v27) h28) fun v h=>Q (.panic v) h)):=by kernel_rfl
theorem Lz3x_eq (Q:AEnd→AH→Prop) (n:Nat) (x3 x6:V) (h:AH):Lz3x Q (n + 1) x3 x6 h=(
 vcNextM x6 h fun v5 h6 =>
 bindV (still (aExtract v5 0) h6) fun v7 h8 =>
 vcIf v7 (
 Meet (Jz2u Q n x3 x6 h8)) (
 Meet (Jz2v Q x3 h8))):=by kernel_rfl
theorem S246 (Q:AEnd→AH→Prop) (a0:V) (h:AH):vc Pg N246 B246 K246 (vcRet Pg R246 Q) (initEnv 0 [a0]) h=(
 bindV (aAlloc Pg h 193) fun v1 h2 =>
 vcRange Pg 395 a0 h2 fun v3 h4 =>
 ∃ n,Meet (Lz3x Q n v1 v3 h4)):=by kernel_rfl
theorem C246 (Q:AEnd→AH→Prop) (a0:V) (h:AH) (c :
 bindV (aAlloc Pg h 193) fun v1 h2 =>
 vcRange Pg 395 a0 h2 fun v3 h4 =>
 ∃ n,Meet (Lz3x Q n v1 v3 h4)):ACalls Pg 246 [a0] h Q :=
 acalls_of_vc okP Tryz.func246 (show Tryz.f246.body=some B246 from by kernel_rfl) K246 (by rw [← S246 Q a0 h] at c;exact c)
end Go.Proofs.YtcglbpjpbjaecaaGreat.Sh
namespace Go.Proofs.YtcglbpjpbjaecaaGreat.Sh
open Go Go.Ab Go.RowKit
open Go.Proofs.YtcglbpjpbjaecaaGreat.Ru (Pg okP)
set_option maxRecDepth 100000
theorem z193:zeroV Pg 193=some (.slc none 0):=by kernel_rfl
theorem s193 (a:Option (PA × Nat)) (n:Nat):hasShape Pg (.slc a n) 193=true:=by kernel_rfl
theorem u395:ul Pg 395=some (.map 22 399):=by kernel_rfl
theorem b22:Pg.bytesOf 22=2:=by kernel_rfl
theorem callS {f:FuncId} {args:List V} {h:AH} {v:V} {K X:V→AH→Prop} (c:ACalls Pg f args h (pureE v h)) (k:K v h):ACalls Pg f args h (aEnd K X) :=
 c.mono fun e h' q=>by
   cases e with
   | ret u=>obtain ⟨rfl,rfl⟩:=q;exact k
   | panic _=>exact q.elim
theorem tail246 (q:AEnd→AH→Prop) (b:Nat) (a:Option (PA × Nat)) (n:Nat) (hn:n≤1) (h:AH) (hb:h.m b=some (.cells true (.one 193) (.slc a n))) (k:q (.ret (.slc a n)) h):Jz2v q (.ptr (some ⟨b,.one 193,[]⟩)) h:=by
 rw [Jz2v_eq]
 refine bindV_mk (ld_mk hb (by kernel_rfl) rfl) ?_
 refine bindS_mk (show aIface Pg 193 (.slc a n)=some (.ifc 193 (.slc a n)) by kernel_rfl) ?_
 refine callS (So.sortP2 a n hn _ _ _ h) ?_
 exact bindV_mk (ld_mk hb (by kernel_rfl) rfl) k
theorem sorted0 (n:Nat) (h:AH) (hn:n < h.next) (hm:h.m n=some (.mp 22 399 [])):ACalls Pg 246 [.map (some n)] h (pureE (.slc none 0) h):=by
 refine acalls_forget (by rfl) (C246 _ _ _ ?_)
 refine bindV_mk (al_mk z193 (s193 _ _)) ?_
 have hm1:(h.make (.cells true (.one 193) (.slc none 0))).m n=some (.mp 22 399 []):=by rw [make_m,if_neg (by omega),hm]
 refine ⟨⟨22,399,u395⟩,?_⟩
 simp only [hm1]
 intro st clock hl hlt hnd
 obtain rfl:st=[]:=List.length_eq_zero_iff.1 hl
 refine ⟨1,Meet.of ?_⟩
 rw [Lz3x_eq]
 generalize hg:((h.make (.cells true (.one 193) (.slc none 0))).put n (.mps 22 399 [] [] clock)).make (.mit (some n) clock [] clock)=h2
 have e2:h2.next=h.next + 2:=by rw [← hg,make_next,put_next,make_next]
 have g1:h2.m n=some (.mps 22 399 [] [] clock):=by rw [← hg,make_m,if_neg (by rw [put_next,make_next];omega),put_m,if_pos rfl]
 have g2:h2.m h.next=some (.cells true (.one 193) (.slc none 0)):=by rw [← hg,make_m,if_neg (by rw [put_next,make_next];omega),put_m,if_neg (by omega),make_m,if_pos rfl]
 have g3:∀ i,i < h.next→i≠n→h2.m i=h.m i:=fun i hi hne=>by rw [← hg,make_m,if_neg (by rw [put_next,make_next];omega),put_m,if_neg hne,make_m,if_neg (by omega)]
 have g4:h2.m (h.next + 1)=some (.mit (some n) clock [] clock):=by rw [← hg,make_m,if_pos (by rw [put_next,make_next])]
 have hit:itV (h.make (.cells true (.one 193) (.slc none 0))).next=.ptr (some ⟨h.next + 1,.one 0,[]⟩):=rfl
 show vcNextM (itV (h.make (.cells true (.one 193) (.slc none 0))).next) h2 _
 rw [hit]
 refine nextM_mk g4 g1 rfl rfl (fun i k v b he=>by simp at he) fun _=>?_
 refine bindS_mk (show aExtract _ _=some (.bool false) from rfl) ?_
 refine i_f (Meet.of ?_)
 refine tail246 _ h.next none 0 (by omega) _ ?_ ?_
 · show (h2.put n (.mp 22 399 [])).m h.next=_
   rw [put_m,if_neg (by omega),g2]
 · refine ⟨rfl,fun i hi=>?_⟩
   by_cases e:i=n
   · subst e;rw [put_m,if_pos rfl,hm]
   · rw [put_m,if_neg e,g3 i hi e]
theorem sorted1 (n:Nat) (h:AH) (hn:n < h.next) (k:Int) (v:V) (hm:h.m n=some (.mp 22 399 [(.int .u16 k,v)])) (h2:AH) (hx:h2.next=h.next + 4)
   (hs:∀ i o,h2.m i=some o→(i=h.next + 3∧o=.cells true (.row 22) (.agg [.int .u16 k]))∨h.m i=some o) :
   ACalls Pg 246 [.map (some n)] h fun e h'=>e=.ret (.slc (some (⟨h.next + 3,.row 22,[]⟩,0)) 1)∧h'=h2:=by
 have c:ACalls Pg 246 [.map (some n)] h fun e h'=>e=.ret (.slc (some (⟨h.next + 3,.row 22,[]⟩,0)) 1)∧(h'.next=h.next + 4∧h'.m (h.next + 3)=some (.cells true (.row 22) (.agg [.int .u16 k]))∧∀ i,i < h.next→h'.m i=h.m i):=by
   refine C246 _ _ _ ?_
   refine bindV_mk (al_mk z193 (s193 _ _)) ?_
   have hm1:(h.make (.cells true (.one 193) (.slc none 0))).m n=some (.mp 22 399 [(.int .u16 k,v)]):=by rw [make_m,if_neg (by omega),hm]
   refine ⟨⟨22,399,u395⟩,?_⟩
   simp only [hm1]
   intro st clock hl hlt hnd
   obtain ⟨b,rfl⟩:∃ b,st=[b]:=List.length_eq_one_iff.1 hl
   refine ⟨2,Meet.of ?_⟩
   rw [Lz3x_eq]
   generalize hg:((h.make (.cells true (.one 193) (.slc none 0))).put n (.mps 22 399 [(.int .u16 k,v)] [b] clock)).make (.mit (some n) clock [] clock)=h2
   have e2:h2.next=h.next + 2:=by rw [← hg,make_next,put_next,make_next]
   have g1:h2.m n=some (.mps 22 399 [(.int .u16 k,v)] [b] clock):=by rw [← hg,make_m,if_neg (by rw [put_next,make_next];omega),put_m,if_pos rfl]
   have g2:h2.m h.next=some (.cells true (.one 193) (.slc none 0)):=by rw [← hg,make_m,if_neg (by rw [put_next,make_next];omega),put_m,if_neg (by omega),make_m,if_pos rfl]
   have g3:∀ i,i < h.next→i≠n→h2.m i=h.m i:=fun i hi hne=>by rw [← hg,make_m,if_neg (by rw [put_next,make_next];omega),put_m,if_neg hne,make_m,if_neg (by omega)]
   have g4:h2.m (h.next + 1)=some (.mit (some n) clock [] clock):=by rw [← hg,make_m,if_pos (by rw [put_next,make_next])]
   have hit:itV (h.make (.cells true (.one 193) (.slc none 0))).next=.ptr (some ⟨h.next + 1,.one 0,[]⟩):=rfl
   show vcNextM (itV (h.make (.cells true (.one 193) (.slc none 0))).next) h2 _
   rw [hit]
   refine nextM_mk g4 g1 rfl rfl (fun i k' v' b' he hb _=>?_) (fun hall=>absurd (hall b (by simp)) (by simp))
   have hi:i=0:=by
     cases i with
     | zero=>rfl
     | succ i=>simp at he
   subst hi
   simp only [List.getElem?_cons_zero,Option.some.injEq,Prod.mk.injEq] at he hb
   obtain ⟨rfl,rfl⟩:=he
   subst hb
   refine bindS_mk (show aExtract _ _=some (.bool true) from rfl) ?_
   refine i_t (Meet.of ?_)
   rw [Jz2u_eq]
   refine entry_mk (i:=0) (b:=b) (k:=.int .u16 k) (v:=v) (es:=[(.int .u16 k,v)]) (st:=[b]) (kt:=22) (et:=399) (clock:=clock) (seen:=[]++[b]) (since:=clock) (last:=clock) (m:=n) ?_ ?_ rfl rfl rfl rfl ?_
   · rw [put_m,if_pos rfl]
   · rw [put_m,if_neg (by omega),g1]
   refine bindS_mk (show aExtract _ _=some (.int .u16 k) from rfl) ?_
   generalize hg5:h2.put (h.next + 1) (.mit (some n) clock ([]++[b]) clock)=h5
   have e5:h5.next=h.next + 2:=by rw [← hg5,put_next,e2]
   have f1:h5.m n=some (.mps 22 399 [(.int .u16 k,v)] [b] clock):=by rw [← hg5,put_m,if_neg (by omega),g1]
   have f2:h5.m h.next=some (.cells true (.one 193) (.slc none 0)):=by rw [← hg5,put_m,if_neg (by omega),g2]
   have f3:∀ i,i < h.next→i≠n→h5.m i=h.m i:=fun i hi hne=>by rw [← hg5,put_m,if_neg (by omega),g3 i hi hne]
   have f4:h5.m (h.next + 1)=some (.mit (some n) clock [b] clock):=by rw [← hg5,put_m,if_pos rfl];rfl
   refine bindV_mk (ld_mk f2 (by kernel_rfl) rfl) ?_
   refine bindV_mk (bs_mk (e:=22) (z:=.int .u16 0) (l:=[.int .u16 k]) (by kernel_rfl) (by kernel_rfl) (by kernel_rfl)) ?_
   refine bindV_mk (appN (e:=22) (ws:=[.int .u16 k]) (by kernel_rfl) (elemsR (l:=[.int .u16 k]) (own:=true) (by rw [make_m,if_pos rfl]) (by simp)) (by simp) (by rw [b22];simp)) ?_
   have f5:((h5.make (.cells true (.row 22) (.agg [.int .u16 k]))).make (.cells true (.row 22) (.agg [.int .u16 k]))).m h.next=some (.cells true (.one 193) (.slc none 0)):=by rw [make_m,if_neg (by rw [make_next];omega),make_m,if_neg (by omega),f2]
   refine bindV_mk (st_mk (v':=.slc (some (⟨h.next + 3,.row 22,[]⟩,0)) 1) f5 (by kernel_rfl) rfl (s193 _ _) (by rw [make_next,e5];rfl)) ?_
   refine Meet.of ?_
   rw [Lz3x_eq]
   generalize hg6:(((h5.make (.cells true (.row 22) (.agg [.int .u16 k]))).make (.cells true (.row 22) (.agg [.int .u16 k]))).put h.next (.cells true (.one 193) (.slc (some (⟨h.next + 3,.row 22,[]⟩,0)) 1)))=h6
   have e6:h6.next=h.next + 4:=by rw [← hg6,put_next,make_next,make_next,e5]
   have p1:h6.m n=some (.mps 22 399 [(.int .u16 k,v)] [b] clock):=by rw [← hg6,put_m,if_neg (by omega),make_m,if_neg (by rw [make_next];omega),make_m,if_neg (by omega),f1]
   have p2:h6.m h.next=some (.cells true (.one 193) (.slc (some (⟨h.next + 3,.row 22,[]⟩,0)) 1)):=by rw [← hg6,put_m,if_pos rfl]
   have p3:∀ i,i < h.next→i≠n→h6.m i=h.m i:=fun i hi hne=>by rw [← hg6,put_m,if_neg (by omega),make_m,if_neg (by rw [make_next];omega),make_m,if_neg (by omega),f3 i hi hne]
   have p4:h6.m (h.next + 1)=some (.mit (some n) clock [b] clock):=by rw [← hg6,put_m,if_neg (by omega),make_m,if_neg (by rw [make_next];omega),make_m,if_neg (by omega),f4]
   have p5:h6.m (h.next + 3)=some (.cells true (.row 22) (.agg [.int .u16 k])):=by rw [← hg6,put_m,if_neg (by omega),make_m,if_pos (by rw [make_next,e5])]
   refine nextM_mk p4 p1 rfl rfl (fun i k' v' b' he hb hns=>?_) (fun _=>?_)
   · exfalso
     cases i with
     | zero=>simp at hb;subst hb;simp at hns
     | succ i=>simp at he
   refine bindS_mk (show aExtract _ _=some (.bool false) from rfl) ?_
   refine i_f (Meet.of ?_)
   refine tail246 _ h.next (some (⟨h.next + 3,.row 22,[]⟩,0)) 1 (by omega) _ ?_ ?_
   · show (h6.put n (.mp 22 399 [(.int .u16 k,v)])).m h.next=_
     rw [put_m,if_neg (by omega),p2]
   · refine ⟨rfl,by rw [put_next,e6],by rw [put_m,if_neg (by omega),p5],fun i hi=>?_⟩
     by_cases e:i=n
     · subst e;rw [put_m,if_pos rfl,hm]
     · rw [put_m,if_neg e,p3 i hi e]
 intro B ι W vs F r
 refine (c B ι W vs F r).mono ?_
 rintro e w' ⟨ι',h',ae,a1,a2,a3,rfl,b1,b2,b3⟩
 refine ⟨ι',h2,_,a1,a2.sub (by rw [hx,b1]) (fun i o ho=>?_),a3,rfl,rfl⟩
 rcases hs i o ho with ⟨rfl,rfl⟩ | h1
 · exact b2
 · have hi:i < h.next:=by
     rcases Nat.lt_or_ge i h.next with k | k
     · exact k
     · obtain ⟨L,g1,_⟩:=F.obj i o h1
       rw [F.fresh i k] at g1;cases g1
   rw [b3 i hi];exact h1
end Go.Proofs.YtcglbpjpbjaecaaGreat.Sh
namespace Go.Ab
open Go Go.RowKit
def lput {α:Type} (s:List (Nat × α)) (more l:List α):List α:=s.foldr (fun p l=>l.set p.1 p.2) l++more
noncomputable def killR {R:Type} (n:Nat):Nat→HT→(HT→R)→R :=
 Nat.rec (motive:=fun _=>Nat→HT→(HT→R)→R) (fun _ H k=>k H) (fun _ ih a H k=>H.kill a fun H=>fNat (Nat.succ a) fun a=>ih a H k) n
noncomputable def killRs {R:Type} (l:List (Nat × Nat)):HT→(HT→R)→R :=
 List.rec (motive:=fun _=>HT→(HT→R)→R) (fun H k=>k H) (fun p _ ih H k=>Prod.rec (fun a n=>killR n a H fun H=>ih H k) p) l
def Less (H H':HT):Prop:=HT.ext H H'∧H'.ah.next=H.ah.next∧∀ n o,H'.ah.m n=some o→H.ah.m n=some o
theorem Less.refl (H:HT):Less H H:=⟨HT.ext.refl H,rfl,fun _ _ h=>h⟩
theorem Less.trans {a b c:HT} (x:Less a b) (y:Less b c):Less a c:=⟨x.1.trans y.1,y.2.1.trans x.2.1,fun n o h=>x.2.2 n o (y.2.2 n o h)⟩
theorem less_kill (H:HT) (n:Nat):∃ H',(∀ (R:Type) (k:HT→R),H.kill n k=k H')∧Less H H':=by
 obtain ⟨H',h1,h2,h3⟩:=H.kill_spec n
 refine ⟨H',h1,h3,by rw [h2];rfl,fun m o hm=>?_⟩
 rw [h2] at hm
 simp only [AH.kill] at hm
 split at hm
 · cases hm
 · exact hm
theorem killR_spec:∀ (n a:Nat) (H:HT),∃ H',(∀ (R:Type) (k:HT→R),killR n a H k=k H')∧Less H H'
 | 0,a,H=>⟨H,fun _ _=>rfl,Less.refl H⟩
 | n + 1,a,H=>by
   obtain ⟨H1,h1,h2⟩:=less_kill H a
   obtain ⟨H2,g1,g2⟩:=killR_spec n (Nat.succ a) H1
   refine ⟨H2,fun R k=>?_,h2.trans g2⟩
   have e:killR (n + 1) a H k=H.kill a fun H=>fNat (Nat.succ a) fun a=>killR n a H k:=rfl
   rw [e,h1,fNat_eq,g1]
theorem killRs_spec:∀ (l:List (Nat × Nat)) (H:HT),∃ H',(∀ (R:Type) (k:HT→R),killRs l H k=k H')∧Less H H'
 | [],H=>⟨H,fun _ _=>rfl,Less.refl H⟩
 | (a,n) :: l,H=>by
   obtain ⟨H1,h1,h2⟩:=killR_spec n a H
   obtain ⟨H2,g1,g2⟩:=killRs_spec l H1
   refine ⟨H2,fun R k=>?_,h2.trans g2⟩
   have e:killRs ((a,n) :: l) H k=killR n a H fun H=>killRs l H k:=rfl
   rw [e,h1,g1]
noncomputable def T8.isNil {α:Type} (t:T8 α):Bool:=T8.rec (motive:=fun _=>Bool) true (fun _ _ _ _ _ _ _ _ _ _ _ _ _ _ _ _ _=>false) t
theorem T8.isNil_eq {α:Type} {t:T8 α} (h:t.isNil=true):t=.nil:=by
 cases t with
 | nil=>rfl
 | node=>cases h
noncomputable def mkN {α:Type} (o:Option α) (a b c d e f g h:T8 α):T8 α :=
 Option.rec (motive:=fun _=>T8 α) (bif a.isNil && (b.isNil && (c.isNil && (d.isNil && (e.isNil && (f.isNil && (g.isNil && h.isNil)))))) then .nil else .node none a b c d e f g h) (fun x=>.node (some x) a b c d e f g h) o
noncomputable def cleanT {α:Type} (t:T8 α):T8 α :=
 T8.rec (motive:=fun _=>T8 α) .nil (fun o _ _ _ _ _ _ _ _ a b c d e f g h=>mkN o a b c d e f g h) t
theorem mkN_get {α:Type} (o:Option α) (a b c d e f g h:T8 α) (p:List D8):T8.get p (mkN o a b c d e f g h)=T8.get p (.node o a b c d e f g h):=by
 cases o with
 | some x=>rfl
 | none =>
   show T8.get p (bif _ then _ else _)=_
   cases hb:(a.isNil && (b.isNil && (c.isNil && (d.isNil && (e.isNil && (f.isNil && (g.isNil && h.isNil))))))) with
   | false=>rfl
   | true =>
     simp only [Bool.and_eq_true] at hb
     obtain ⟨h1,h2,h3,h4,h5,h6,h7,h8⟩:=hb
     rw [T8.isNil_eq h1,T8.isNil_eq h2,T8.isNil_eq h3,T8.isNil_eq h4,T8.isNil_eq h5,T8.isNil_eq h6,T8.isNil_eq h7,T8.isNil_eq h8]
     simp only [cond_true]
     rw [T8.get_nil]
     cases p with
     | nil=>rfl
     | cons x p=>rw [T8.get_s];cases x <;> exact (T8.get_nil p).symm
theorem cleanT_get {α:Type}:∀ (t:T8 α) (p:List D8),T8.get p (cleanT t)=T8.get p t
 | .nil,_=>rfl
 | .node o a b c d e f g h,p=>by
   show T8.get p (mkN o (cleanT a) (cleanT b) (cleanT c) (cleanT d) (cleanT e) (cleanT f) (cleanT g) (cleanT h))=_
   rw [mkN_get]
   cases p with
   | nil=>rfl
   | cons x p=>rw [T8.get_s,T8.get_s];cases x <;> exact cleanT_get _ p
theorem clean_ah (lo next:Nat) (tr:T8 AO):HT.ah ⟨lo,next,cleanT tr⟩=HT.ah ⟨lo,next,tr⟩:=by
 unfold HT.ah
 simp only [cleanT_get]
theorem less_clean (lo next:Nat) (tr:T8 AO):Less ⟨lo,next,tr⟩ ⟨lo,next,cleanT tr⟩:=by
 refine ⟨⟨Nat.le_refl _,Nat.le_refl _,fun n _ _=>cleanT_get tr _,fun hw n o hn=>hw n o ?_⟩,rfl,fun n o hn=>?_⟩
 · have:T8.get (path n) (cleanT tr)=some o:=hn
   rw [cleanT_get] at this;exact this
 · rw [clean_ah] at hn;exact hn
noncomputable def pairP (l:List (Nat × Nat)):AEnd→HT→Option (V × HT):=fun ae H=>match ae with
 | .ret u=>killRs l H fun H=>HT.rec (motive:=fun _=>Option (V × HT)) (fun lo next tr=>some (u,⟨lo,next,cleanT tr⟩)) H
 | .panic _=>none
theorem acalls_less {P:Program} {f:FuncId} {args:List V} {h:AH} {v:V} {H H':HT} (c:ACalls P f args h fun e h'=>e=.ret v∧h'=H.ah) (l:Less H H'):ACalls P f args h fun e h'=>e=.ret v∧h'=H'.ah:=by
 intro B ι W vs F r
 refine (c B ι W vs F r).mono ?_
 rintro e w' ⟨ι',h',ae,a1,a2,a3,rfl,rfl⟩
 exact ⟨ι',H'.ah,.ret v,a1,a2.sub l.2.1 l.2.2,a3,rfl,rfl⟩
section
variable {P:Program}
theorem memo_ofP (K0:Ok P) {T:T8 FD} {hd:HdF} {hm:HmF} {pu:FuncId→Bool} (hT:TabOk P T) (hh:HdOk P hd) (hhm:HmOk P hm) (l:List (Nat × Nat)) {n:Nat} {f:FuncId} {args:List V} {H H':HT} {v:V} (how:H.Own)
   (h:(exTabM P T hd hm pu n).ex (V × HT) f args ⟨H.next,H.next,H.tr⟩ (pairP l)=some (v,H')):MemoOk P ⟨f,args,H,v,H'⟩:=by
 obtain ⟨ae,H1,he,h1,hent,c⟩:=(exTabM_ok K0 hT hh hhm n).1 _ _ _ ⟨H.next,H.next,H.tr⟩ _ _ how h
 cases ae with
 | panic _=>cases h1
 | ret u =>
   obtain ⟨H2,g1,g2⟩:=killRs_spec l H1
   have h1:killRs l H1 (fun H=>HT.rec (motive:=fun _=>Option (V × HT)) (fun lo next tr=>some (u,⟨lo,next,cleanT tr⟩)) H)=some (v,H'):=h1
   rw [g1] at h1
   obtain ⟨lo,next,tr⟩:=H2
   have h1:some (u,(⟨lo,next,cleanT tr⟩:HT))=some (v,H'):=h1
   cases h1
   have g3:=g2.trans (less_clean lo next tr)
   exact ⟨hent,he.trans g3.1,acalls_less c g3⟩
end
noncomputable def oneMemoC (m:Memo):HmF:=fun R f args H K z =>
 bif Nat.beq m.f f && (Nat.beq H.next m.H.next && (sameVs args m.args && sameT (cleanT H.tr) m.H.tr)) then goMemo m.v m.H' H K else z
theorem ext_clean {lo next:Nat} {tr:T8 AO} {H':HT} (e:HT.ext ⟨lo,next,cleanT tr⟩ H'):HT.ext ⟨lo,next,tr⟩ H' :=
 ⟨e.lo,e.next,fun n h1 h2=>(e.same n h1 h2).trans (cleanT_get tr _),fun hw=>e.own fun n o hn=>hw n o (by
   have hn:T8.get (path n) (cleanT tr)=some o:=hn
   rw [cleanT_get] at hn;exact hn)⟩
theorem oneMemoC_ok {P:Program} {m:Memo} (hm:MemoOk P m):HmOk P (oneMemoC m):=by
 intro R f args H K z r how h
 unfold oneMemoC at h
 cases hb:(Nat.beq m.f f && (Nat.beq H.next m.H.next && (sameVs args m.args && sameT (cleanT H.tr) m.H.tr))) with
 | false=>rw [hb] at h;exact .inl h
 | true =>
   rw [hb] at h
   simp only [Bool.and_eq_true] at hb
   obtain ⟨h1,h2,h3,h4⟩:=hb
   have h1:=Nat.eq_of_beq_eq_true h1
   subst h1
   rw [sameVs_eq _ _ h3]
   obtain ⟨lo,next,tr⟩:=H
   have e:=clean_ah lo next tr
   have h:goMemo m.v m.H' ⟨lo,next,cleanT tr⟩ K=some r:=by
     obtain ⟨f,args,⟨l0,n0,t0⟩,v,⟨lo',next',tr'⟩⟩:=m
     rw [goMemo_eq] at h ⊢;exact h
   obtain ⟨v,H',a,b,c,d⟩:=goMemo_ok hm (H:=⟨lo,next,cleanT tr⟩) (Nat.eq_of_beq_eq_true h2) (sameT_eq _ _ h4) h
   rw [e] at d
   exact .inr ⟨v,H',ext_clean a,b,c,d⟩
noncomputable def allMemoC:List Memo→HmF
 | []=>fun R f args H K z=>z
 | m :: l=>fun R f args H K z=>oneMemoC m R f args H K (allMemoC l R f args H K z)
theorem allMemoC_ok {P:Program}:∀ {l:List Memo},MemosOk P l→HmOk P (allMemoC l)
 | [],_=>fun R f args H K z r how h=>.inl h
 | m :: l,hl=>fun R f args H K z r how h=>by
   rcases oneMemoC_ok hl.1 R f args H K _ r how h with h | h
   · exact allMemoC_ok hl.2 R f args H K z r how h
   · exact .inr h
noncomputable def HT.leap {R:Type} (H:HT) (d:Nat) (o:AO) (k:Nat→HT→R):R :=
 HT.rec (fun lo next tr=>fNat (next + d) fun r=>fNat (Nat.succ r) fun nx=>T8.upd (some o) (path r) tr fun tr=>k r ⟨lo,nx,tr⟩) H
theorem HT.leap_spec (H:HT) (d:Nat) (o:AO) (ho:o.isOwn=true):∃ H',(∀ (R:Type) (k:Nat→HT→R),H.leap d o k=k (H.next + d) H')∧H'.ah.next=H.next + d + 1∧(∀ n x,H'.ah.m n=some x→(n=H.next + d∧x=o)∨H.ah.m n=some x)∧HT.ext H H':=by
 obtain ⟨lo,next,tr⟩:=H
 obtain ⟨t',h1,h2,h3⟩:=T8.upd_spec (some o) (path (next + d)) tr
 refine ⟨⟨lo,next + d + 1,t'⟩,fun R k=>?_,rfl,fun n x hx=>?_,Nat.le_refl _,by show next≤next + d + 1;omega,fun m _ hm=>?_,fun hw=>own_upd h2 h3 (fun x hx=>by cases hx;exact ho) hw⟩
 · refine (fNat_eq (next + d) (fun r=>fNat (Nat.succ r) fun nx=>T8.upd (some o) (path r) tr fun tr=>k r ⟨lo,nx,tr⟩)).trans ?_
   refine (fNat_eq (Nat.succ (next + d)) (fun nx=>T8.upd (some o) (path (next + d)) tr fun tr=>k (next + d) ⟨lo,nx,tr⟩)).trans ?_
   exact h1 R fun tr=>k (next + d) ⟨lo,next + d + 1,tr⟩
 · by_cases hn:n=next + d
   · subst hn
     have hx:T8.get (path (next + d)) t'=some x:=hx
     rw [h2] at hx;cases hx
     exact .inl ⟨rfl,rfl⟩
   · have hx:T8.get (path n) t'=some x:=hx
     rw [h3 _ fun e=>hn (path_inj e)] at hx
     exact .inr hx
 · have hne:m≠next + d:=by
     have hm:m < next:=hm
     omega
   exact h3 _ fun e=>hne (path_inj e)
end Go.Ab
namespace Go.Proofs.YtcglbpjpbjaecaaGreat.Sh
open Go Go.Ab Go.RowKit
open Go.Proofs.YtcglbpjpbjaecaaGreat.Ru (Pg okP)
set_option maxRecDepth 10000
noncomputable def keysHm:HmF:=fun R f args H K z=>match Nat.beq f 246 with
 | true=>(match args with
   | [.map (some n)]=>(match H.get n with
     | some (.mp kt et es)=>bif Nat.beq kt 22 && (Nat.beq et 399 && Nat.blt n H.next) then (match es with
       | []=>K (.slc none 0) H
       | [(.int .u16 k,_)]=>H.leap 3 (.cells true (.row 22) (.agg [.int .u16 k])) fun r H=>K (.slc (some (⟨r,.row 22,[]⟩,0)) 1) H
       | _=>z) else z
     | _=>z)
   | _=>z)
 | false=>z
theorem keysHm_ok:HmOk Pg keysHm:=by
 intro R f args H K z r how h
 unfold keysHm at h
 split at h
 · rename_i hf
   obtain rfl:=Nat.eq_of_beq_eq_true hf
   split at h
   · rename_i n
     split at h
     · rename_i kt et es hm
       have hm':H.ah.m n=some (.mp kt et es):=hm
       cases hb:(Nat.beq kt 22 && (Nat.beq et 399 && Nat.blt n H.next)) with
       | false=>rw [hb] at h;exact .inl h
       | true =>
         rw [hb] at h
         simp only [Bool.and_eq_true] at hb
         obtain ⟨h1,h2,h3⟩:=hb
         have h1:=Nat.eq_of_beq_eq_true h1
         have h2:=Nat.eq_of_beq_eq_true h2
         subst h1;subst h2
         have h3:n < H.ah.next:=by rw [Nat.blt_eq] at h3;exact h3
         simp only [cond_true] at h
         split at h
         · refine .inr ⟨_,H,HT.ext.refl _,h,by kernel_rfl,(sorted0 n H.ah h3 hm').mono fun e h' q=>?_⟩
           cases e with
           | ret u=>obtain ⟨rfl,rfl⟩:=q;exact ⟨rfl,rfl⟩
           | panic _=>exact q.elim
         · rename_i k v
           obtain ⟨H',k1,k2,k3,k4⟩:=H.leap_spec 3 (.cells true (.row 22) (.agg [.int .u16 k])) rfl
           rw [k1] at h
           exact .inr ⟨_,H',k4,h,by kernel_rfl,sorted1 n H.ah h3 k v hm' H'.ah k2 k3⟩
         · exact .inl h
     · exact .inl h
   · exact .inl h
 · exact .inl h
end Go.Proofs.YtcglbpjpbjaecaaGreat.Sh
namespace Go.Proofs.YtcglbpjpbjaecaaGreat.Ru
open Go Go.Ab Go.RowKit
open Go.Proofs.YtcglbpjpbjaecaaGreat.Sj
set_option maxRecDepth 10000
noncomputable def hdT:HdF:=fun f a=>match Nat.beq f 111 with
 | true=>(match a with
   | [.str s,.str [c]]=>bif Nat.ble s.length 4611686018427387904 then some (.tup [.str (cutAt c s).1,.str (cutAt c s).2.1,.bool (cutAt c s).2.2]) else none
   | _=>none)
 | false=>hdW f a
theorem hdT_ok (hh:HdOk Pg hd):HdOk Pg hdT:=by
 intro f args v hv
 unfold hdT at hv
 split at hv
 · rename_i hf
   obtain rfl:=Nat.eq_of_beq_eq_true hf
   split at hv
   · obtain ⟨hc,hv2⟩:=bif_some hv
     simp only [Option.some.injEq] at hv2;subst hv2
     exact ⟨by kernel_rfl,fun h=>cutP _ _ (Nat.le_of_ble_eq_true hc) h⟩
   · cases hv
 · exact hdW_ok hh f args v hv
def strsV:List V→Option (List (List UInt8))
 | []=>some []
 | .str s :: l=>(match strsV l with
   | some ss=>some (s :: ss)
   | none=>none)
 | _=>none
theorem strsV_eq:∀ {l:List V} {ss:List (List UInt8)},strsV l=some ss→l=ss.map V.str
 | [],ss,h=>by simp only [strsV,Option.some.injEq] at h;subst h;rfl
 | v :: l,ss,h=>by
   cases v with
   | str s =>
     simp only [strsV] at h
     split at h
     · rename_i t ht
       cases h
       rw [strsV_eq ht];rfl
     · cases h
   | _=>cases h
def bytesOfV:List V→Option (List UInt8)
 | []=>some []
 | .int .u8 (.ofNat n) :: l=>(match bytesOfV l with
   | some ss=>bif Nat.blt n 256 then some (UInt8.ofNat n :: ss) else none
   | none=>none)
 | _=>none
theorem bytesOfV_eq:∀ {l:List V} {s:List UInt8},bytesOfV l=some s→l=bytesV s
 | [],ss,h=>by simp only [bytesOfV,Option.some.injEq] at h;subst h;rfl
 | v :: l,ss,h=>by
   unfold bytesOfV at h
   split at h
   · rename_i h1;cases h1
   · rename_i n l' h1
     cases h1
     split at h
     · rename_i t ht
       obtain ⟨hc,h2⟩:=bif_some h
       cases h2
       rw [bytesOfV_eq ht]
       rw [Nat.blt_eq] at hc
       have:(UInt8.ofNat n).toNat=n:=by simp;omega
       show _=V.int .u8 ((UInt8.ofNat n).toNat:Nat) :: _
       rw [this];rfl
     · cases h
   · cases h
noncomputable def wordsHm:HmF:=fun R f args H K z=>match Nat.beq f 115 with
 | true=>(match args with
   | [.slc (some (⟨n,.row 9,[]⟩,0)) k]=>(match H.get n with
     | some (.cells own (.row 9) (.agg es))=>(match strsV es with
       | some ss=>bif Nat.beq es.length k && (Nat.ble 1 k && (Nat.ble k 1000 && Nat.ble (Sh.jn ss).length 140737488355328)) then fStr (Sh.jn ss) fun s=>K (.str s) H else z
       | none=>z)
     | _=>z)
   | _=>z)
 | false=>z
theorem wordsHm_ok:HmOk Pg wordsHm:=by
 intro R f args H K z r how h
 unfold wordsHm at h
 split at h
 · rename_i hf
   obtain rfl:=Nat.eq_of_beq_eq_true hf
   split at h
   · rename_i n k
     split at h
     · rename_i own es hm
       have hm':H.ah.m n=some (.cells own (.row 9) (.agg es)):=hm
       split at h
       · rename_i ss hss
         have he:=strsV_eq hss
         subst he
         cases hb:(Nat.beq (ss.map V.str).length k && (Nat.ble 1 k && (Nat.ble k 1000 && Nat.ble (Sh.jn ss).length 140737488355328))) with
         | false=>rw [hb] at h;exact .inl h
         | true =>
           rw [hb] at h
           simp only [Bool.and_eq_true,cond_true,fStr_eq] at hb h
           obtain ⟨h1,h2,h3,h4⟩:=hb
           have h1:=Nat.eq_of_beq_eq_true h1
           have h2:=Nat.le_of_ble_eq_true h2
           have h3:=Nat.le_of_ble_eq_true h3
           have h4:=Nat.le_of_ble_eq_true h4
           rw [List.length_map] at h1
           subst h1
           refine .inr ⟨_,H,HT.ext.refl _,h,by kernel_rfl,(Sh.wordsP n own ss H.ah hm' h3 (by intro e;subst e;simp at h2) h4).mono fun e h' q=>?_⟩
           cases e with
           | ret u=>obtain ⟨rfl,rfl⟩:=q;exact ⟨rfl,rfl⟩
           | panic _=>exact q.elim
       · exact .inl h
     · exact .inl h
   · exact .inl h
 · exact .inl h
def selfP (n:Nat):V→Bool
 | .ptr none=>true
 | .ptr (some ⟨m,.one t,[]⟩)=>Nat.beq m n && Nat.beq t 233
 | _=>false
theorem selfP_eq {n:Nat} {p:V} (h:selfP n p=true):p=.ptr none∨p=bp n:=by
 unfold selfP at h
 split at h
 · exact .inl rfl
 · rw [Bool.and_eq_true] at h
   rw [Nat.eq_of_beq_eq_true h.1,Nat.eq_of_beq_eq_true h.2]
   exact .inr rfl
 · cases h
def isSlc:V→Bool
 | .slc _ _=>true
 | _=>false
noncomputable def copyHm:HmF:=fun R f args H K z=>match Nat.beq f 199 with
 | true=>(match args with
   | [.ptr (some ⟨n,.one 233,[]⟩)]=>(match H.get n with
     | some (.cells true (.one 233) (.agg [p,y]))=>bif selfP n p && isSlc y then H.put n (.cells true (.one 233) (.agg [.ptr (some ⟨n,.one 233,[]⟩),y])) fun H=>K (.tup []) H else z
     | _=>z)
   | _=>z)
 | false=>z
theorem copyHm_ok:HmOk Pg copyHm:=by
 intro R f args H K z r how h
 unfold copyHm at h
 split at h
 · rename_i hf
   obtain rfl:=Nat.eq_of_beq_eq_true hf
   split at h
   · rename_i n
     split at h
     · rename_i p y hm
       have hm':H.ah.m n=some (.cells true (.one 233) (.agg [p,y])):=hm
       cases hb:(selfP n p && isSlc y) with
       | false=>rw [hb] at h;exact .inl h
       | true =>
         rw [hb] at h
         simp only [Bool.and_eq_true,cond_true] at hb h
         obtain ⟨H',k1,k2,k3⟩:=H.put_spec n (.cells true (.one 233) (.agg [.ptr (some ⟨n,.one 233,[]⟩),y])) rfl
         rw [k1] at h
         refine .inr ⟨_,H',k3,h,by kernel_rfl,(copyP n y p (selfP_eq hb.1) ?_ hm').mono fun e h' q=>⟨q.1,q.2.trans k2.symm⟩⟩
         intro l hl
         rw [hl] at hb
         cases hb.2
     · exact .inl h
   · exact .inl h
 · exact .inl h
noncomputable def stringHm:HmF:=fun R f args H K z=>match Nat.beq f 125 with
 | true=>(match args with
   | [.ptr (some ⟨n,.one 233,[]⟩)]=>(match H.get n with
     | some (.cells true (.one 233) (.agg [p,.slc (some (⟨m,.row 5,[]⟩,0)) k]))=>(match H.get m with
       | some (.cells true (.row 5) (.agg es))=>(match bytesOfV es with
         | some s=>bif selfP n p && (Nat.beq s.length k && (Nat.ble 1 k && Nat.ble k 140737488355328)) then H.kill m fun H=>fStr s fun s=>K (.str s) H else z
         | none=>z)
       | _=>z)
     | _=>z)
   | _=>z)
 | false=>z
theorem stringHm_ok:HmOk Pg stringHm:=by
 intro R f args H K z r how h
 unfold stringHm at h
 split at h
 · rename_i hf
   obtain rfl:=Nat.eq_of_beq_eq_true hf
   split at h
   · rename_i n
     split at h
     · rename_i p m k hm
       have hm':H.ah.m n=some (.cells true (.one 233) (.agg [p,.slc (some (⟨m,.row 5,[]⟩,0)) k])):=hm
       split at h
       · rename_i es hr
         have hr':H.ah.m m=some (.cells true (.row 5) (.agg es)):=hr
         split at h
         · rename_i s hs
           have hs:=bytesOfV_eq hs
           subst hs
           cases hb:(selfP n p && (Nat.beq s.length k && (Nat.ble 1 k && Nat.ble k 140737488355328))) with
           | false=>rw [hb] at h;exact .inl h
           | true =>
             rw [hb] at h
             simp only [Bool.and_eq_true,cond_true] at hb h
             obtain ⟨b1,b2,b3,b4⟩:=hb
             have b2:=Nat.eq_of_beq_eq_true b2
             have b3:=Nat.le_of_ble_eq_true b3
             have b4:=Nat.le_of_ble_eq_true b4
             subst b2
             obtain ⟨H',k1,k2,k3⟩:=H.kill_spec m
             rw [k1,fStr_eq] at h
             exact .inr ⟨_,H',k3,h,by kernel_rfl,(stringK n m p s b4 (by intro e;subst e;simp at b3) (selfP_eq b1) hm' hr').mono fun e h' q=>⟨q.1,q.2.trans k2.symm⟩⟩
         · exact .inl h
       · exact .inl h
     · exact .inl h
   · exact .inl h
 · exact .inl h
noncomputable def hmT:HmF:=orMemo Sh.keysHm (orMemo wordsHm (orMemo copyHm stringHm))
theorem hmT_ok:HmOk Pg hmT:=orMemo_ok Sh.keysHm_ok (orMemo_ok wordsHm_ok (orMemo_ok copyHm_ok stringHm_ok))
end Go.Proofs.YtcglbpjpbjaecaaGreat.Ru
namespace Go.Ab
open Go
def i6_ (n:Int):V:=.int .i64 n
def u6_ (n:Int):V:=.int .u64 n
def u3_ (n:Int):V:=.int .u32 n
def u1_ (n:Int):V:=.int .u16 n
def u8_ (n:Int):V:=.int .u8 n
def k2_ (a b:Int):V:=.agg [.int .i64 a,.int .i64 b]
noncomputable def p0_:V:=.agg (pkV 64 0)
def pt_ (n t:Nat):V:=.ptr (some ⟨n,.one t,[]⟩)
def sl_ (n t k:Nat):V:=.slc (some (⟨n,.row t,[]⟩,0)) k
def sn_:V:=.slc none 0
def pn_:V:=.ptr none
def s0_:V:=.str []
def bt_:V:=.bool true
def bf_:V:=.bool false
def co_ (n t:Nat) (v:V):Nat × Option AO:=(n,some (.cells true (.one t) v))
def cr_ (n t:Nat) (l:List V):Nat × Option AO:=(n,some (.cells true (.row t) (.agg l)))
def ag_ (l:List V):V:=.agg l
noncomputable def pv_ (n m:Nat):V:=.agg (pkV n m)
end Go.Ab
