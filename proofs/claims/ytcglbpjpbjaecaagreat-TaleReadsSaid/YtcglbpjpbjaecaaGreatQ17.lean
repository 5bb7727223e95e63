import Derived.Test.YtcglbpjpbjaecaaGreatQ16
import Derived.Test.YtcglbpjpbjaecaaGreatQ06
import Derived.Test.YtcglbpjpbjaecaaGreatQ14
import Derived.Test.YtcglbpjpbjaecaaGreatQ15
import Derived.Shelf.Strings.OnBuilder
import Derived.Test.YtcglbpjpbjaecaaGreatQ05
set_option linter.unusedVariables false
set_option linter.unusedSimpArgs false
namespace Go.Proofs.YtcglbpjpbjaecaaGreat.Sh
open Go Go.Ab Go.RowKit
open Go.Proofs.YtcglbpjpbjaecaaGreat.Ru (Pg okP)
set_option maxRecDepth 10000
section
variable (e:Ev) (ok:e.ok) {v:V} {h0:AH} {n1 n6 n8:Nat} {h:AH} {k:V}
include ok
theorem RcrashL (hA:e.kind=5∧0≤e.a∧e.a < 2147483648∧e.b=0∧(e.ck=0∧e.txn=0∧e.page=0∧e.off=0∧e.s.length=0)) (hk:KeepB h k e.keep) (hl:e.keep.length≤300000) (hv:e.lineR=v) (hn:h0.next≤h.next) (fr:∀ n,n < h0.next→h.m n=h0.m n) (hm1:h.m n1=some (.cells true (.one 73) (evV e k))) (hn1:n1 < h.next∧h0.next≤n1):∀ (j i:Nat) (s:List UInt8) (m:Nat),i≤e.keep.length→e.keep.length - i=j→j < m→s.length≤100 + i→s++(bitsT (e.keep.drop i)++(if e.keep.length=0 then [45] else []))=e.txt→Lz61 (Ends v h0) m (.ptr (some ⟨n1,.one 73,[]⟩)) (.str s) (.int .i64 i) h:=by
 have k1:=ok.kind;have k2:=ok.a;have k3:=ok.b;have k4:=ok.ck;have k5:=ok.txn;have k6:=ok.page;have k7:=ok.off;have k8:=ok.s;have k9:=ok.keep
 obtain ⟨a,rfl⟩:=hk.shape
 intro j
 induction j with
 | zero =>
   intro i s m hi hj hm hs ht
   obtain ⟨m,rfl⟩:∃ j,m=j + 1:=⟨m - 1,by omega⟩
   rw [Lz61_eq]
   refine bindS_mk (fa_mk (by kernel_rfl)) ?_
   refine bindV_mk (ld_mk hm1 (by kernel_rfl) rfl) ?_
   refine bindV_mk (len_slc (by kernel_rfl)) ?_
   refine bindS_mk (b_lss) ?_
   refine i_split (fun c1=>?_) (fun c1=>?_)
   · try rw [c1]
     replace c1:=of_decide_eq_true c1
     exfalso;omega
   · try rw [c1]
     replace c1:=of_decide_eq_false c1
     refine Meet.of (cast_p (Jz3s_eq _ _ _ _) ?_)
     refine bindS_mk (fa_mk (by kernel_rfl)) ?_
     refine bindV_mk (ld_mk hm1 (by kernel_rfl) rfl) ?_
     refine bindV_mk (len_slc (by kernel_rfl)) ?_
     refine bindS_mk (b_eql) ?_
     refine i_split (fun c2=>?_) (fun c2=>?_)
     · try rw [c2]
       replace c2:=eq_of_beq c2
       refine bindS_mk (t_add (by simp;omega)) ?_
       refine Meet.of (cast_p (Jz3t_eq _ _ _ _) ?_)
       refine bindSO_mk (fa_mk (by kernel_rfl)) ?_
       refine bindVO_mk (ld_mk hm1 (by kernel_rfl) rfl) ?_
       refine bindSO_mk (b_eql) ?_
       refine g_split_t (fun c3=>?_) (fun c3=>?_)
       · try rw [c3]
         replace c3:=eq_of_beq c3
         refine bindSO_mk (fa_mk (by kernel_rfl)) ?_
         refine bindVO_mk (ld_mk hm1 (by kernel_rfl) rfl) ?_
         refine bindVO_mk (len_slc (by kernel_rfl)) ?_
         refine bindSO_mk (b_leq) ?_
         refine Meet.of (cast_p (Gz18_eq _ _ _ _ _) ?_)
         refine bindVO_mk p_t ?_
         refine Meet.of (cast_p (Jz3u_eq _ _ _ _) ?_)
         refine ⟨congrArg AEnd.ret ((lineR_mk (e:=e) (by unfold Ev.pre;omega) ?_ ?_).trans hv),fr⟩
         · rw [← ht,List.drop_of_length_le (by omega)]
           first | (rw [if_pos (by omega)];simp [bitsT];done) | (rw [if_neg (by omega)];simp [bitsT];done)
         · first | exact (decide_eq_true (by unfold Ev.fine;omega)).symm | exact (decide_eq_false (by unfold Ev.fine;omega)).symm | (rw [eqd];exact decide_eq_decide.2 (by unfold Ev.fine;omega)) | (rw [eqs];exact decide_eq_decide.2 (by unfold Ev.fine;omega)) | exact decide_eq_decide.2 (by unfold Ev.fine;omega)
       · try rw [c3]
         replace c3:=ne_of_beq_false c3
         refine Meet.of (cast_p (Gz18_eq _ _ _ _ _) ?_)
         refine bindVO_mk p_f ?_
         refine Meet.of (cast_p (Jz3u_eq _ _ _ _) ?_)
         refine ⟨congrArg AEnd.ret ((lineR_mk (e:=e) (by unfold Ev.pre;omega) ?_ ?_).trans hv),fr⟩
         · rw [← ht,List.drop_of_length_le (by omega)]
           first | (rw [if_pos (by omega)];simp [bitsT];done) | (rw [if_neg (by omega)];simp [bitsT];done)
         · first | exact (decide_eq_true (by unfold Ev.fine;omega)).symm | exact (decide_eq_false (by unfold Ev.fine;omega)).symm | (rw [eqd];exact decide_eq_decide.2 (by unfold Ev.fine;omega)) | (rw [eqs];exact decide_eq_decide.2 (by unfold Ev.fine;omega)) | exact decide_eq_decide.2 (by unfold Ev.fine;omega)
     · try rw [c2]
       replace c2:=ne_of_beq_false c2
       refine Meet.of (cast_p (Jz3t_eq _ _ _ _) ?_)
       refine bindSO_mk (fa_mk (by kernel_rfl)) ?_
       refine bindVO_mk (ld_mk hm1 (by kernel_rfl) rfl) ?_
       refine bindSO_mk (b_eql) ?_
       refine g_split_t (fun c4=>?_) (fun c4=>?_)
       · try rw [c4]
         replace c4:=eq_of_beq c4
         refine bindSO_mk (fa_mk (by kernel_rfl)) ?_
         refine bindVO_mk (ld_mk hm1 (by kernel_rfl) rfl) ?_
         refine bindVO_mk (len_slc (by kernel_rfl)) ?_
         refine bindSO_mk (b_leq) ?_
         refine Meet.of (cast_p (Gz18_eq _ _ _ _ _) ?_)
         refine bindVO_mk p_t ?_
         refine Meet.of (cast_p (Jz3u_eq _ _ _ _) ?_)
         refine ⟨congrArg AEnd.ret ((lineR_mk (e:=e) (by unfold Ev.pre;omega) ?_ ?_).trans hv),fr⟩
         · rw [← ht,List.drop_of_length_le (by omega)]
           first | (rw [if_pos (by omega)];simp [bitsT];done) | (rw [if_neg (by omega)];simp [bitsT];done)
         · first | exact (decide_eq_true (by unfold Ev.fine;omega)).symm | exact (decide_eq_false (by unfold Ev.fine;omega)).symm | (rw [eqd];exact decide_eq_decide.2 (by unfold Ev.fine;omega)) | (rw [eqs];exact decide_eq_decide.2 (by unfold Ev.fine;omega)) | exact decide_eq_decide.2 (by unfold Ev.fine;omega)
       · try rw [c4]
         replace c4:=ne_of_beq_false c4
         refine Meet.of (cast_p (Gz18_eq _ _ _ _ _) ?_)
         refine bindVO_mk p_f ?_
         refine Meet.of (cast_p (Jz3u_eq _ _ _ _) ?_)
         refine ⟨congrArg AEnd.ret ((lineR_mk (e:=e) (by unfold Ev.pre;omega) ?_ ?_).trans hv),fr⟩
         · rw [← ht,List.drop_of_length_le (by omega)]
           first | (rw [if_pos (by omega)];simp [bitsT];done) | (rw [if_neg (by omega)];simp [bitsT];done)
         · first | exact (decide_eq_true (by unfold Ev.fine;omega)).symm | exact (decide_eq_false (by unfold Ev.fine;omega)).symm | (rw [eqd];exact decide_eq_decide.2 (by unfold Ev.fine;omega)) | (rw [eqs];exact decide_eq_decide.2 (by unfold Ev.fine;omega)) | exact decide_eq_decide.2 (by unfold Ev.fine;omega)
 | succ j ih =>
   intro i s m hi hj hm hs ht
   obtain ⟨m,rfl⟩:∃ j,m=j + 1:=⟨m - 1,by omega⟩
   have ih:=fun i s m h1 h2 h3 h4 h5=>ih i s m h1 h2 h3 h4 h5
   obtain ⟨b,hb0⟩:∃ b,e.keep[i]?=some b:=⟨e.keep[i]'(by omega),List.getElem?_eq_getElem (by omega)⟩
   have hd:e.keep.drop i=b :: e.keep.drop (i + 1):=drop_at' hb0
   rw [Lz61_eq]
   refine bindS_mk (fa_mk (by kernel_rfl)) ?_
   refine bindV_mk (ld_mk hm1 (by kernel_rfl) rfl) ?_
   refine bindV_mk (len_slc (by kernel_rfl)) ?_
   refine bindS_mk (b_lss) ?_
   refine (show decide (((i:Nat):Int) < ((e.keep.length:Nat):Int))=true from decide_eq_true (by omega))▸i_t ?_
   rcases hk with ⟨_,hk⟩ | ⟨nK,hnK,hke,hmK⟩
   · rw [hk] at hb0;cases hb0
   obtain ⟨rfl,_⟩:=V.slc.injEq ..▸hke
   refine Meet.of ?_
   rw [Jz3q_eq]
   refine bindS_mk (fa_mk (by kernel_rfl)) ?_
   refine bindV_mk (ld_mk hm1 (by kernel_rfl) rfl) ?_
   refine bindS_mk (ia_slc _ (by kernel_rfl) (by omega) (by omega)) ?_
   refine bindV_mk (ld_mk hmK (by kernel_rfl) (getV_row (boolsV_get (by rw [show 0 + ((i:Nat):Int).toNat=i by omega];exact hb0)))) ?_
   refine i_split (fun hb2=>?_) (fun hb2=>?_)
   · skip
     refine bindS_mk (t_add (by simp;omega)) ?_
     refine Meet.of (cast_p (Jz3r_eq _ _ _ _ _ _) ?_)
     first | refine bindS_mk (w_add (by first | exact wrap_i64 (by omega) (by omega) | exact wr_u8 (by omega) (by omega) | exact wr_u16 (by omega) (by omega) | exact wr_u32 (by omega) (by omega) | exact wr_u64 (by omega) (by omega))) ?_ | refine bindS_mk (b_add) ?_
     refine Meet.of ((congrArg (fun x:Int=>Lz61 (Ends v h0) m (.ptr (some ⟨n1,.one 73,[]⟩)) _ (.int .i64 x) h) (show ((i:Nat):Int) + 1=((i + 1:Nat):Int) by omega)).mpr (ih (i + 1) _ m (by omega) (by omega) (by omega) (by simp;omega) ?_))
     rw [← ht,hd];simp [bitsT,hb2]
   · skip
     refine bindS_mk (t_add (by simp;omega)) ?_
     refine Meet.of (cast_p (Jz3r_eq _ _ _ _ _ _) ?_)
     first | refine bindS_mk (w_add (by first | exact wrap_i64 (by omega) (by omega) | exact wr_u8 (by omega) (by omega) | exact wr_u16 (by omega) (by omega) | exact wr_u32 (by omega) (by omega) | exact wr_u64 (by omega) (by omega))) ?_ | refine bindS_mk (b_add) ?_
     refine Meet.of ((congrArg (fun x:Int=>Lz61 (Ends v h0) m (.ptr (some ⟨n1,.one 73,[]⟩)) _ (.int .i64 x) h) (show ((i:Nat):Int) + 1=((i + 1:Nat):Int) by omega)).mpr (ih (i + 1) _ m (by omega) (by omega) (by omega) (by simp;omega) ?_))
     rw [← ht,hd];simp [bitsT,hb2]
theorem Roth (hA:e.kind≠0∧e.kind≠5∧e.kind < 7∧0≤e.a∧e.a < 2147483648∧e.b=0∧(e.ck=0∧e.txn=0∧e.page=0∧e.off=0∧e.s.length=0)) {s8:List UInt8} (hs8:s8=kindName e.kind++[32]) (hk:KeepB h k e.keep) (hv:e.lineR=v) (hn:h0.next≤h.next) (fr:∀ n,n < h0.next→h.m n=h0.m n) (hm1:h.m n1=some (.cells true (.one 73) (evV e k))) (hn1:n1 < h.next∧h0.next≤n1):Jz3w (Ends v h0) (.ptr (some ⟨n1,.one 73,[]⟩)) (.str s8) h:=by
 have k1:=ok.kind;have k2:=ok.a;have k3:=ok.b;have k4:=ok.ck;have k5:=ok.txn;have k6:=ok.page;have k7:=ok.off;have k8:=ok.s;have k9:=ok.keep
 obtain ⟨a,rfl⟩:=hk.shape
 rw [Jz3w_eq]
 refine bindSO_mk (fa_mk (by kernel_rfl)) ?_
 refine bindVO_mk (ld_mk hm1 (by kernel_rfl) rfl) ?_
 refine bindSO_mk (cv_wr (d:=49) (k:=.u64) (by kernel_rfl) (wr_u64 (by omega) (by omega))) ?_
 refine ⟨_,NumP _ (by omega) (by omega) _,?_⟩
 refine bindSO_mk (t_add (by rw [hs8];have l1:=kindName_len e.kind;have l2:=dec_len20 (n:=e.a.toNat) (by omega);simp;omega)) ?_
 refine bindSO_mk (fa_mk (by kernel_rfl)) ?_
 refine bindVO_mk (ld_mk hm1 (by kernel_rfl) rfl) ?_
 refine bindVO_mk (len_slc (by kernel_rfl)) ?_
 refine bindSO_mk (b_eql) ?_
 refine ⟨congrArg AEnd.ret ((lineR_mk (e:=e) (by unfold Ev.pre;omega) ?_ ?_).trans hv),fr⟩
 · rw [Ev.txt,if_neg (show ¬ e.kind=0 by omega),if_neg (show ¬ e.kind=5 by omega),hs8];simp
 · first | exact (decide_eq_true (by unfold Ev.fine;omega)).symm | exact (decide_eq_false (by unfold Ev.fine;omega)).symm | (rw [eqd];exact decide_eq_decide.2 (by unfold Ev.fine;omega)) | (rw [eqs];exact decide_eq_decide.2 (by unfold Ev.fine;omega)) | exact decide_eq_decide.2 (by unfold Ev.fine;omega)
omit ok in
theorem lineR_old (e:Ev) (m:Nat→Bool):oldV m e.lineR=true:=rfl
theorem lineR0 {k:V} (hk:KeepB h0 k e.keep) (hkl:e.keep.length≤300000):ACalls Pg 126 [evV e k] h0 (Ends e.lineR h0):=by
 have k1:=ok.kind;have k2:=ok.a;have k3:=ok.b;have k4:=ok.ck;have k5:=ok.txn;have k6:=ok.page;have k7:=ok.off;have k8:=ok.s;have k9:=ok.keep
 obtain ⟨a,rfl⟩:=hk.shape
 obtain ⟨v,hv⟩:∃ v,e.lineR=v:=⟨_,rfl⟩
 rw [hv]
 refine C126 _ _ _ ?_
 refine bindE (new_at (s73 e a _)) fun h1 u1=>?_
 have n1:=u1.next
 have fFR_1:=fun k (hk:k < h0.next)=>(u1.other k (by omega)).trans ((fun n (_:n < h0.next)=>rfl) k hk)
 have f1_1:=u1.at_
 refine bindS_mk (fa_mk (by kernel_rfl)) ?_
 refine bindV_mk (ld_mk f1_1 (by kernel_rfl) rfl) ?_
 refine bindS_mk (b_gtr) ?_
 refine g_split_f (fun c2=>?_) (fun c2=>?_)
 · try rw [c2]
   replace c2:=of_decide_eq_false c2
   refine bindS_mk (fa_mk (by kernel_rfl)) ?_
   refine bindV_mk (ld_mk f1_1 (by kernel_rfl) rfl) ?_
   refine bindS_mk (b_lss) ?_
   refine Meet.of (cast_p (Gzw_eq _ _ _ _ _) ?_)
   refine bindV_mk p_f ?_
   refine g_split_f (fun c3=>?_) (fun c3=>?_)
   · try rw [c3]
     replace c3:=of_decide_eq_false c3
     refine bindS_mk (fa_mk (by kernel_rfl)) ?_
     refine bindV_mk (ld_mk f1_1 (by kernel_rfl) rfl) ?_
     refine bindS_mk (b_gtr) ?_
     refine Meet.of (cast_p (Gzx_eq _ _ _ _ _) ?_)
     refine bindV_mk p_f ?_
     refine g_split_f (fun c4=>?_) (fun c4=>?_)
     · try rw [c4]
       replace c4:=of_decide_eq_false c4
       refine bindS_mk (fa_mk (by kernel_rfl)) ?_
       refine bindV_mk (ld_mk f1_1 (by kernel_rfl) rfl) ?_
       refine bindS_mk (b_neq) ?_
       refine Meet.of (cast_p (Gzy_eq _ _ _ _ _) ?_)
       refine bindV_mk p_f ?_
       refine Meet.of (cast_p (Jz3g_eq _ _ _ _) ?_)
       refine i_split (fun c5=>?_) (fun c5=>?_)
       · try rw [c5]
         replace c5:=ne_of_bne c5
         exact ⟨congrArg AEnd.ret ((lineR_no (e:=e) (by unfold Ev.pre;omega)).trans hv),fFR_1⟩
       · try rw [c5]
         replace c5:=eq_of_bne_false c5
         refine Meet.of (cast_p (Jz3h_eq _ _ _) ?_)
         refine bindS_mk (fa_mk (by kernel_rfl)) ?_
         refine bindV_mk (ld_mk f1_1 (by kernel_rfl) rfl) ?_
         refine bindE (al_at z57 zs57) fun h6 u6=>?_
         have n6:=u6.next
         have fFR_6:=fun k (hk:k < h0.next)=>(u6.other k (by omega)).trans (fFR_1 k hk)
         have f1_6:=(u6.other _ (by omega)).trans f1_1
         have f6_6:=u6.at_
         refine bindE (st_at f6_6 (by kernel_rfl) rfl (s57 e) rfl) fun h7 u7=>?_
         have n7:=u7.next
         have fFR_7:=fun k (hk:k < h0.next)=>(u7.other k (by omega)).trans (fFR_6 k hk)
         have f1_7:=(u7.other _ (by omega)).trans f1_6
         have f6_7:=u7.at_
         refine bindS_mk (fa_mk (by kernel_rfl)) ?_
         refine bindV_mk (ld_mk f1_7 (by kernel_rfl) rfl) ?_
         refine bindS_mk (b_eql) ?_
         refine i_split (fun c8=>?_) (fun c8=>?_)
         · try rw [c8]
           replace c8:=eq_of_beq c8
           refine bindS_mk (fa_mk (by kernel_rfl)) ?_
           refine bindV_mk (ld_mk f1_7 (by kernel_rfl) rfl) ?_
           refine bindS_mk (b_gtr) ?_
           refine g_split_f (fun c9=>?_) (fun c9=>?_)
           · try rw [c9]
             replace c9:=of_decide_eq_false c9
             refine bindS_mk (fa_mk (by kernel_rfl)) ?_
             refine bindV_mk (ld_mk f6_7 (by kernel_rfl) rfl) ?_
             refine bindS_mk (b_gtr) ?_
             refine Meet.of (cast_p (Gzz_eq _ _ _ _ _ _) ?_)
             refine bindV_mk p_f ?_
             refine g_split_f (fun c10=>?_) (fun c10=>?_)
             · try rw [c10]
               replace c10:=of_decide_eq_false c10
               refine bindS_mk (fa_mk (by kernel_rfl)) ?_
               refine bindV_mk (ld_mk f1_7 (by kernel_rfl) rfl) ?_
               refine bindV_mk (len_slc (by kernel_rfl)) ?_
               refine bindS_mk (b_gtr) ?_
               refine Meet.of (cast_p (Gz10_eq _ _ _ _ _ _) ?_)
               refine bindV_mk p_f ?_
               refine g_split_f (fun c11=>?_) (fun c11=>?_)
               · try rw [c11]
                 replace c11:=of_decide_eq_false c11
                 refine bindS_mk (fa_mk (by kernel_rfl)) ?_
                 refine bindV_mk (ld_mk f6_7 (by kernel_rfl) rfl) ?_
                 refine bindS_mk (b_gtr) ?_
                 refine Meet.of (cast_p (Gz11_eq _ _ _ _ _ _) ?_)
                 refine bindV_mk p_f ?_
                 refine g_split_f (fun c12=>?_) (fun c12=>?_)
                 · try rw [c12]
                   replace c12:=of_decide_eq_false c12
                   refine bindS_mk (fa_mk (by kernel_rfl)) ?_
                   refine bindV_mk (ld_mk f6_7 (by kernel_rfl) rfl) ?_
                   refine bindS_mk (b_lss) ?_
                   refine Meet.of (cast_p (Gz12_eq _ _ _ _ _ _) ?_)
                   refine bindV_mk p_f ?_
                   refine g_split_f (fun c13=>?_) (fun c13=>?_)
                   · try rw [c13]
                     replace c13:=of_decide_eq_false c13
                     refine bindS_mk (fa_mk (by kernel_rfl)) ?_
                     refine bindV_mk (ld_mk f6_7 (by kernel_rfl) rfl) ?_
                     refine bindS_mk (b_gtr) ?_
                     refine Meet.of (cast_p (Gz13_eq _ _ _ _ _ _) ?_)
                     refine bindV_mk p_f ?_
                     refine g_split_f (fun c14=>?_) (fun c14=>?_)
                     · try rw [c14]
                       replace c14:=of_decide_eq_false c14
                       refine bindS_mk (fa_mk (by kernel_rfl)) ?_
                       refine bindV_mk (ld_mk f6_7 (by kernel_rfl) rfl) ?_
                       refine bindV_mk (len_str (by kernel_rfl)) ?_
                       refine bindS_mk (b_gtr) ?_
                       refine Meet.of (cast_p (Gz14_eq _ _ _ _ _ _) ?_)
                       refine bindV_mk p_f ?_
                       refine Meet.of (cast_p (Jz3i_eq _ _ _ _ _) ?_)
                       refine i_split (fun c15=>?_) (fun c15=>?_)
                       · try rw [c15]
                         replace c15:=of_decide_eq_true c15
                         exact ⟨congrArg AEnd.ret ((lineR_no (e:=e) (by unfold Ev.pre;omega)).trans hv),fFR_7⟩
                       · try rw [c15]
                         replace c15:=of_decide_eq_false c15
                         exact Meet.of (Rask e ok (by omega) hv (by omega) fFR_7 f1_7 (by omega) f6_7 (by omega))
                     · try rw [c14]
                       replace c14:=of_decide_eq_true c14
                       refine Meet.of (cast_p (Gz14_eq _ _ _ _ _ _) ?_)
                       refine bindV_mk p_t ?_
                       refine Meet.of (cast_p (Jz3i_eq _ _ _ _ _) ?_)
                       refine i_t ?_
                       exact ⟨congrArg AEnd.ret ((lineR_no (e:=e) (by unfold Ev.pre;omega)).trans hv),fFR_7⟩
                   · try rw [c13]
                     replace c13:=of_decide_eq_true c13
                     refine Meet.of (cast_p (Gz13_eq _ _ _ _ _ _) ?_)
                     refine bindV_mk p_t ?_
                     refine g_tf ?_
                     refine Meet.of (cast_p (Gz14_eq _ _ _ _ _ _) ?_)
                     refine bindV_mk p_t ?_
                     refine Meet.of (cast_p (Jz3i_eq _ _ _ _ _) ?_)
                     refine i_t ?_
                     exact ⟨congrArg AEnd.ret ((lineR_no (e:=e) (by unfold Ev.pre;omega)).trans hv),fFR_7⟩
                 · try rw [c12]
                   replace c12:=of_decide_eq_true c12
                   refine Meet.of (cast_p (Gz12_eq _ _ _ _ _ _) ?_)
                   refine bindV_mk p_t ?_
                   refine g_tf ?_
                   refine Meet.of (cast_p (Gz13_eq _ _ _ _ _ _) ?_)
                   refine bindV_mk p_t ?_
                   refine g_tf ?_
                   refine Meet.of (cast_p (Gz14_eq _ _ _ _ _ _) ?_)
                   refine bindV_mk p_t ?_
                   refine Meet.of (cast_p (Jz3i_eq _ _ _ _ _) ?_)
                   refine i_t ?_
                   exact ⟨congrArg AEnd.ret ((lineR_no (e:=e) (by unfold Ev.pre;omega)).trans hv),fFR_7⟩
               · try rw [c11]
                 replace c11:=of_decide_eq_true c11
                 refine Meet.of (cast_p (Gz11_eq _ _ _ _ _ _) ?_)
                 refine bindV_mk p_t ?_
                 refine g_tf ?_
                 refine Meet.of (cast_p (Gz12_eq _ _ _ _ _ _) ?_)
                 refine bindV_mk p_t ?_
                 refine g_tf ?_
                 refine Meet.of (cast_p (Gz13_eq _ _ _ _ _ _) ?_)
                 refine bindV_mk p_t ?_
                 refine g_tf ?_
                 refine Meet.of (cast_p (Gz14_eq _ _ _ _ _ _) ?_)
                 refine bindV_mk p_t ?_
                 refine Meet.of (cast_p (Jz3i_eq _ _ _ _ _) ?_)
                 refine i_t ?_
                 exact ⟨congrArg AEnd.ret ((lineR_no (e:=e) (by unfold Ev.pre;omega)).trans hv),fFR_7⟩
             · try rw [c10]
               replace c10:=of_decide_eq_true c10
               refine Meet.of (cast_p (Gz10_eq _ _ _ _ _ _) ?_)
               refine bindV_mk p_t ?_
               refine g_tf ?_
               refine Meet.of (cast_p (Gz11_eq _ _ _ _ _ _) ?_)
               refine bindV_mk p_t ?_
               refine g_tf ?_
               refine Meet.of (cast_p (Gz12_eq _ _ _ _ _ _) ?_)
               refine bindV_mk p_t ?_
               refine g_tf ?_
               refine Meet.of (cast_p (Gz13_eq _ _ _ _ _ _) ?_)
               refine bindV_mk p_t ?_
               refine g_tf ?_
               refine Meet.of (cast_p (Gz14_eq _ _ _ _ _ _) ?_)
               refine bindV_mk p_t ?_
               refine Meet.of (cast_p (Jz3i_eq _ _ _ _ _) ?_)
               refine i_t ?_
               exact ⟨congrArg AEnd.ret ((lineR_no (e:=e) (by unfold Ev.pre;omega)).trans hv),fFR_7⟩
           · try rw [c9]
             replace c9:=of_decide_eq_true c9
             refine Meet.of (cast_p (Gzz_eq _ _ _ _ _ _) ?_)
             refine bindV_mk p_t ?_
             refine g_tf ?_
             refine Meet.of (cast_p (Gz10_eq _ _ _ _ _ _) ?_)
             refine bindV_mk p_t ?_
             refine g_tf ?_
             refine Meet.of (cast_p (Gz11_eq _ _ _ _ _ _) ?_)
             refine bindV_mk p_t ?_
             refine g_tf ?_
             refine Meet.of (cast_p (Gz12_eq _ _ _ _ _ _) ?_)
             refine bindV_mk p_t ?_
             refine g_tf ?_
             refine Meet.of (cast_p (Gz13_eq _ _ _ _ _ _) ?_)
             refine bindV_mk p_t ?_
             refine g_tf ?_
             refine Meet.of (cast_p (Gz14_eq _ _ _ _ _ _) ?_)
             refine bindV_mk p_t ?_
             refine Meet.of (cast_p (Jz3i_eq _ _ _ _ _) ?_)
             refine i_t ?_
             exact ⟨congrArg AEnd.ret ((lineR_no (e:=e) (by unfold Ev.pre;omega)).trans hv),fFR_7⟩
         · try rw [c8]
           replace c8:=ne_of_beq_false c8
           refine Meet.of (cast_p (Jz3o_eq _ _ _ _) ?_)
           refine bindV_mk (ld_mk f6_7 (by kernel_rfl) rfl) ?_
           refine bindS_mk (build57) ?_
           refine bindS_mk (ne57 e _) ?_
           refine i_split (fun c16=>?_) (fun c16=>?_)
           · try rw [c16]
             have l16:¬ (e.ck=0∧e.txn=0∧e.page=0∧e.off=0∧e.s.length=0):=of_decide_eq_false (by simpa only [Bool.not_eq_true'] using c16)
             exact ⟨congrArg AEnd.ret ((lineR_no (e:=e) (by unfold Ev.pre;omega)).trans hv),fFR_7⟩
           · try rw [c16]
             have l16:(e.ck=0∧e.txn=0∧e.page=0∧e.off=0∧e.s.length=0):=of_decide_eq_true (by simpa only [Bool.not_eq_false'] using c16)
             refine Meet.of (cast_p (Jz3p_eq _ _ _) ?_)
             refine bindS_mk (fa_mk (by kernel_rfl)) ?_
             refine bindV_mk (ld_mk f1_7 (by kernel_rfl) rfl) ?_
             refine bindS_mk (b_eql) ?_
             refine i_split (fun c17=>?_) (fun c17=>?_)
             · try rw [c17]
               replace c17:=eq_of_beq c17
               have e5:e.kind=5:=by omega
               refine ⟨e.keep.length + 1,Meet.of (RcrashL e ok (by omega) (hk.keep (by omega) (fun n hn=>fFR_7 n hn)) hkl hv (by omega) fFR_7 f1_7 (by omega) e.keep.length 0 _ _ (by omega) (by omega) (by omega) (by decide) ?_)⟩
               rw [Ev.txt,if_neg (show ¬ e.kind=0 by omega),if_pos e5,List.drop_zero]
               by_cases hz:e.keep.length=0
               · rw [if_pos hz,if_pos hz,List.length_eq_zero_iff.1 hz];rfl
               · rw [if_neg hz,if_neg hz,List.append_nil]
             · try rw [c17]
               replace c17:=ne_of_beq_false c17
               refine Meet.of (cast_p (Jz3v_eq _ _ _) ?_)
               refine bindS_mk (fa_mk (by kernel_rfl)) ?_
               refine bindV_mk (ld_mk f1_7 (by kernel_rfl) rfl) ?_
               refine bindS_mk (b_eql) ?_
               refine i_split (fun c18=>?_) (fun c18=>?_)
               · try rw [c18]
                 replace c18:=eq_of_beq c18
                 have ek:e.kind=1:=by omega
                 exact Meet.of (Roth e ok (by omega) (by rw [ek];rfl) (hk.keep (by omega) (fun n hn=>fFR_7 n hn)) hv (by omega) fFR_7 f1_7 (by omega))
               · try rw [c18]
                 replace c18:=ne_of_beq_false c18
                 refine bindS_mk (b_eql) ?_
                 refine i_split (fun c19=>?_) (fun c19=>?_)
                 · try rw [c19]
                   replace c19:=eq_of_beq c19
                   have ek:e.kind=2:=by omega
                   exact Meet.of (Roth e ok (by omega) (by rw [ek];rfl) (hk.keep (by omega) (fun n hn=>fFR_7 n hn)) hv (by omega) fFR_7 f1_7 (by omega))
                 · try rw [c19]
                   replace c19:=ne_of_beq_false c19
                   refine bindS_mk (b_eql) ?_
                   refine i_split (fun c20=>?_) (fun c20=>?_)
                   · try rw [c20]
                     replace c20:=eq_of_beq c20
                     have ek:e.kind=3:=by omega
                     exact Meet.of (Roth e ok (by omega) (by rw [ek];rfl) (hk.keep (by omega) (fun n hn=>fFR_7 n hn)) hv (by omega) fFR_7 f1_7 (by omega))
                   · try rw [c20]
                     replace c20:=ne_of_beq_false c20
                     refine bindS_mk (b_eql) ?_
                     refine i_split (fun c21=>?_) (fun c21=>?_)
                     · try rw [c21]
                       replace c21:=eq_of_beq c21
                       have ek:e.kind=4:=by omega
                       exact Meet.of (Roth e ok (by omega) (by rw [ek];rfl) (hk.keep (by omega) (fun n hn=>fFR_7 n hn)) hv (by omega) fFR_7 f1_7 (by omega))
                     · try rw [c21]
                       replace c21:=ne_of_beq_false c21
                       refine bindS_mk (b_eql) ?_
                       refine i_split (fun c22=>?_) (fun c22=>?_)
                       · try rw [c22]
                         replace c22:=eq_of_beq c22
                         have ek:e.kind=6:=by omega
                         exact Meet.of (Roth e ok (by omega) (by rw [ek];rfl) (hk.keep (by omega) (fun n hn=>fFR_7 n hn)) hv (by omega) fFR_7 f1_7 (by omega))
                       · try rw [c22]
                         replace c22:=ne_of_beq_false c22
                         exfalso;omega
     · try rw [c4]
       replace c4:=of_decide_eq_true c4
       refine Meet.of (cast_p (Gzy_eq _ _ _ _ _) ?_)
       refine bindV_mk p_t ?_
       refine Meet.of (cast_p (Jz3g_eq _ _ _ _) ?_)
       refine i_t ?_
       exact ⟨congrArg AEnd.ret ((lineR_no (e:=e) (by unfold Ev.pre;omega)).trans hv),fFR_1⟩
   · try rw [c3]
     replace c3:=of_decide_eq_true c3
     refine Meet.of (cast_p (Gzx_eq _ _ _ _ _) ?_)
     refine bindV_mk p_t ?_
     refine g_tf ?_
     refine Meet.of (cast_p (Gzy_eq _ _ _ _ _) ?_)
     refine bindV_mk p_t ?_
     refine Meet.of (cast_p (Jz3g_eq _ _ _ _) ?_)
     refine i_t ?_
     exact ⟨congrArg AEnd.ret ((lineR_no (e:=e) (by unfold Ev.pre;omega)).trans hv),fFR_1⟩
 · try rw [c2]
   replace c2:=of_decide_eq_true c2
   refine Meet.of (cast_p (Gzw_eq _ _ _ _ _) ?_)
   refine bindV_mk p_t ?_
   refine g_tf ?_
   refine Meet.of (cast_p (Gzx_eq _ _ _ _ _) ?_)
   refine bindV_mk p_t ?_
   refine g_tf ?_
   refine Meet.of (cast_p (Gzy_eq _ _ _ _ _) ?_)
   refine bindV_mk p_t ?_
   refine Meet.of (cast_p (Jz3g_eq _ _ _ _) ?_)
   refine i_t ?_
   exact ⟨congrArg AEnd.ret ((lineR_no (e:=e) (by unfold Ev.pre;omega)).trans hv),fFR_1⟩
theorem lineRP {k:V} (hk:KeepB h0 k e.keep) (hkl:e.keep.length≤300000):ACalls Pg 126 [evV e k] h0 (pureE e.lineR h0) :=
 acalls_forget (lineR_old e _) (lineR0 e ok hk hkl)
end
end Go.Proofs.YtcglbpjpbjaecaaGreat.Sh
namespace Go.Proofs.YtcglbpjpbjaecaaGreat.Sj
open Go Go.Ab Go.RowKit Go.Proofs
open Go.Proofs.YtcglbpjpbjaecaaGreat.Ru (Pg okP)
set_option maxRecDepth 100000
section
variable {P:Program} (w:World)
theorem lies_bytes {e:TypeId} (hc:P.cellsOf e=1) (count o n:Nat) (hn:o + n≤count):liesAt P P.depth e count o e n=true:=by
 have hd:P.depth=(2 * (P.types.size + Made.depth) + 1) + 1:=rfl
 rw [hd]
 simp only [liesAt,Bool.or_eq_true]
 left
 rw [hd]
 simp [Go.rowAt,hc,hn,sameLayout,Nat.mod_one]
theorem uStr (pt it ty e:TypeId) (hp:P.underlying pt=some (.pointer e)) (hc:P.cellsOf e=1) (g o cells:Nat) (hsh:w.shape? g=some (e,cells)) (l:List UInt8) (h0:l≠[]) (hn:o + l.length≤cells) (h63:l.length≤9223372036854775807)
   (hcell:∀ j x,l[j]?=some x→w.cell? ((⟨g,o,none⟩:Addr).add j)=some (.int .u8 x.toNat)) :
   (Builtin.unsafeString_ #[pt,it] ty #[.pointer (some ⟨g,o,none⟩),.int .i64 l.length]).run P w=.ok (.string ⟨l.toArray⟩) (w.freeze ⟨g,o,none⟩ l.length):=by
 have hl:l.length≠0:=by simpa using h0
 have hlb:=Lib.run_loadBytes (P:=P) w l ⟨g,o,none⟩ .empty hcell
 have hlies:=lies_bytes (P:=P) hc (cells / P.cellsOf e) o l.length (by rw [hc];simpa using hn)
 have h63':¬ (9223372036854775807:Int) < (l.length:Int):=by omega
 have hdef:Builtin.unsafeString_ #[pt,it] ty #[.pointer (some ⟨g,o,none⟩),.int .i64 l.length] =
     (do
       let n ← asInt (.int .i64 l.length)
       if n < 0 then runtimePanic (.error "unsafe.String: len out of range")
       if n > IntKind.i64.max then unsupported (.unsafePointer "String: a length above the largest int")
       if n=0 then pure (.string .empty)
       else if ← variablesAt ⟨g,o,none⟩ (← elemOf pt) n.toNat then do
         let s ← loadBytes ⟨g,o,none⟩ .empty n.toNat
         freeze ⟨g,o,none⟩ n.toNat
         pure (.string s)
       else unsupported (.unsafePointer "String: not so many bytes at ptr")):=rfl
 rw [hdef]
 have hmax:IntKind.i64.max=9223372036854775807:=rfl
 have hneg:¬ (l.length:Int) < 0:=by omega
 simp [asInt,asIntOf,hmax,h63',hneg,hl,variablesAt,hsh,elemOf,run_underlying hp,hlies,hlb]
end
theorem joLay169:Lays.n169 Tryz.prog joRen:={ joLay with }
theorem joLay240:Lays.n240 Tryz.prog joRen:={ joLay with }
set_option maxHeartbeats 2000000 in
theorem strAt {P:Program} {ρ:Go.Shelf.Ren} (L:Lays.n169 P ρ) (X:Builder.Extra P ρ) (b g o cap:Nat) (p:Value) (cur:Array Value) (fr fr2:Nat × Nat) (l:List UInt8) (w:World) (hbk:w.heap[b]?=some (.cells #[p,.slice (some ⟨g,o,none⟩) l.length cap] (ρ.t 72) fr))
   (hg:w.heap[g]?=some (.cells cur (ρ.t 5) fr2)) (h0:l≠[]) (hc:cap≠0) (hn:o + l.length≤cur.size) (h63:l.length≤9223372036854775807) (hcell:∀ j x,l[j]?=some x→w.cell? ((⟨g,o,none⟩:Addr).add j)=some (.int .u8 x.toNat)) :
   Calls P (ρ.f 169) #[.pointer (some ⟨b,0,none⟩)] w fun e w'=>e=.returned (.string ⟨l.toArray⟩)∧w'=w.drew.freeze ⟨g,o,none⟩ l.length:=by
 have c1:w.drew.cell? ⟨b,1,none⟩=some (.slice (some ⟨g,o,none⟩) l.length cap):=by
   have:w.drew.heap[b]?=some (.cells #[p,.slice (some ⟨g,o,none⟩) l.length cap] (ρ.t 72) fr):=hbk
   rw [Lib.cell_of_heap this];rfl
 have hSD:(Builtin.unsafeSliceData_ #[(ρ.t 37)] (ρ.t 127) #[.slice (some ⟨g,o,none⟩) l.length cap]).run P w.drew=.ok (.pointer (some ⟨g,o,none⟩)) w.drew :=
   Lib.run_unsafeSliceData_row _ _ _ _ _ _ hc
 have hUS:(Builtin.unsafeString_ #[(ρ.t 127),(ρ.t 3)] (ρ.t 9) #[.pointer (some ⟨g,o,none⟩),.int .i64 l.length]).run P w.drew=.ok (.string ⟨l.toArray⟩) (w.drew.freeze ⟨g,o,none⟩ l.length):=by
   refine uStr w.drew (ρ.t 127) (ρ.t 3) (ρ.t 9) (ρ.t 5) L.t127 X.cellsByte g o cur.size (by have hg':w.drew.heap[g]?=some (.cells cur (ρ.t 5) fr2):=hg;simp [World.shape?,hg']) l h0 hn h63 ?_
   intro j x hx
   exact hcell j x hx
 have mixed:=L.mixed
 have t72:=L.t72;have a72:=L.a72;have z72:=L.z72;have v72:=L.v72;have u72:=run_underlying L.t72
 have t70:=L.t70;have a70:=L.a70;have z70:=L.z70;have v70:=L.v70;have u70:=run_underlying L.t70
 have t37:=L.t37;have a37:=L.a37;have z37:=L.z37;have v37:=L.v37;have u37:=run_underlying L.t37
 have t127:=L.t127;have a127:=L.a127;have z127:=L.z127;have v127:=L.v127;have u127:=run_underlying L.t127
 have t3:=L.t3;have a3:=L.a3;have z3:=L.z3;have v3:=L.v3;have u3:=run_underlying L.t3
 have t9:=L.t9;have a9:=L.a9;have z9:=L.z9;have v9:=L.v9;have u9:=run_underlying L.t9
 have t5:=X.t5;have a5:=X.a5;have z5:=X.z5;have v5:=X.v5;have u5:=run_underlying X.t5
 go_enter L.f169,Body.n169_ntmps ρ
 go_wp2
 go_region_o
 all_goals (go_wp2;go_ret;exact ⟨rfl,rfl⟩)
end Go.Proofs.YtcglbpjpbjaecaaGreat.Sj
namespace Go.Proofs.YtcglbpjpbjaecaaGreat.Sh
open Go Go.Ab Go.RowKit
open Go.Proofs.YtcglbpjpbjaecaaGreat.Ru (Pg okP)
set_option maxRecDepth 100000
/- NOT PRINTED 9 varve/varvelaw28.TaleTells: [a region that draws: guards] -/
end Go.Proofs.YtcglbpjpbjaecaaGreat.Sh
namespace Go.Proofs.YtcglbpjpbjaecaaGreat.Sj
open Go Go.Ab Go.RowKit Go.Proofs
open Go.Proofs.YtcglbpjpbjaecaaGreat.Ru (Pg okP)
set_option maxRecDepth 100000
variable {B:Base} {ι:Names} {W:World} {h:AH}
theorem two_cells {ι:Names} {x y:V} {cs:List Value} (hx:∀ l,x≠.agg l) (hy:∀ l,y≠.agg l) (r:relC Pg ι (.agg [x,y]) cs):∃ a b,cs=[a,b]∧relC Pg ι x [a]∧relC Pg ι y [b]:=by
 simp only [relC,relCs] at r
 obtain ⟨c1,c2,h1,⟨c3,c4,h2,rfl,rfl⟩,rfl⟩:=r
 obtain ⟨a,rfl,_⟩:=relC_one hx h1
 obtain ⟨b,rfl,_⟩:=relC_one hy h2
 exact ⟨a,b,by simp,h1,h2⟩
theorem bld_obj {n:Nat} {x y:V} (F:Fits Pg B ι h W) (hm:h.m n=some (.cells true (.one 233) (.agg [x,y]))) (hx:∀ l,x≠.agg l) (hy:∀ l,y≠.agg l) :
   ∃ L a b fr,ι n=some L∧L.off=0∧L.size=2∧L.ty=.one 233∧W.heap[L.blk]?=some (.cells #[a,b] 233 fr)∧relC Pg ι x [a]∧relC Pg ι y [b]∧unfrozen fr 2:=by
 obtain ⟨L,hL,k1,k2,a,b,c,elem,fr,k4,k5,k6,k7,k8⟩:=F.obj _ _ hm
 obtain ⟨q8,k9,k10,k11⟩:=(show unfrozen fr L.size∧elem=233∧L.off=0∧L.size=Pg.cellsOf 233 from k8 rfl)
 have hs:Pg.cellsOf 233=2:=by kernel_rfl
 have k11':L.size=2:=k11.trans hs
 obtain ⟨u,v,rfl,r1,r2⟩:=two_cells hx hy k7
 obtain rfl:a=[]:=List.length_eq_zero_iff.1 (by omega)
 obtain rfl:c=[]:=List.length_eq_zero_iff.1 (by simp at k6;omega)
 subst k9
 exact ⟨L,u,v,fr,hL,k10,k11',k1,by simpa using k4,r1,r2,by rw [k11,hs] at q8;exact q8⟩
theorem ptr_addr {n:Nat} {L:Go.Ab.Loc} {v:Value} (hL:ι n=some L) (h0:L.off=0) (ht:L.ty=.one 233) (r:rel Pg ι (.ptr (some ⟨n,.one 233,[]⟩)) v):v=.pointer (some ⟨L.blk,0,none⟩):=itV_inv r rfl hL h0
def bp (n:Nat):V:=.ptr (some ⟨n,.one 233,[]⟩)
theorem copyP (n:Nat) (y p:V) (hp:p=.ptr none∨p=bp n) (hy:∀ l,y≠.agg l) (hm:h.m n=some (.cells true (.one 233) (.agg [p,y]))) :
   ACalls Pg 199 [bp n] h fun e h'=>e=.ret (.tup [])∧h'=h.put n (.cells true (.one 233) (.agg [bp n,y])):=by
 intro B ι W vs F r
 obtain ⟨v0,vs0,h0,r0,rfl⟩:=relL_cons_iff.1 r
 simp only [relL] at r0
 subst r0
 have hpa:∀ l,p≠.agg l:=by rcases hp with rfl | rfl <;> intro l hh <;> cases hh
 obtain ⟨L,a,b,fr,hL,ho,hsz,hty,hb,ra,rb,hfr⟩:=bld_obj F hm hpa hy
 obtain rfl:=ptr_addr hL ho hty h0
 have hnew:relC Pg ι (bp n) [.pointer (some ⟨L.blk,0,none⟩)]:=by
   simp only [bp,relC]
   exact ⟨_,⟨L,0,233,hL,hty,rfl,by rw [ho]⟩,rfl⟩
 have hobj:objR Pg ι (World.putRow W L.blk [.pointer (some ⟨L.blk,0,none⟩),b] 233 fr) L (.cells true (.one 233) (.agg [bp n,y])):=by
   obtain ⟨L2,hL2,_,hs2,_⟩:=F.obj _ _ hm
   rw [hL] at hL2;cases hL2
   refine ⟨hty,?_,[],[.pointer (some ⟨L.blk,0,none⟩),b],[],233,fr,by rw [putRow_at (getBlk_lt hb)];rfl,by rw [ho];rfl,by rw [hsz];rfl,?_,fun _=>⟨by rw [hsz];exact hfr,rfl,ho,by rw [hsz];kernel_rfl⟩⟩
   · have e1:hasShape Pg (bp n) 231=true:=by kernel_rfl
     have u:∃ z w:TypeId,(∀ v w:V,hasShape Pg (.agg [v,w]) 233=(hasShape Pg v 231 && (hasShape Pg w 207 && true))):=⟨0,0,fun v w=>by kernel_rfl⟩
     obtain ⟨_,_,u⟩:=u
     have hs3:hasShape Pg (.agg [p,y]) 233=true:=hs2
     rw [u] at hs3
     show hasShape Pg (.agg [bp n,y]) 233=true
     rw [u,e1]
     simp only [Bool.and_eq_true] at hs3 ⊢
     exact ⟨trivial,hs3.2⟩
   · simp only [relC,relCs]
     exact ⟨_,[b],hnew,⟨[b],[],rb,rfl,rfl⟩,rfl⟩
 have Fput:=F.store (v':=.agg [bp n,y]) hm hL hobj
 rcases hp with rfl | rfl
 · have ea:a=.pointer none:=by simpa [relC] using ra
   subst ea
   have hc:W.cell? ⟨L.blk,0,none⟩=some (.pointer none):=by simp [World.cell?,hb]
   have hsh:W.shape? L.blk=some (233,2):=by simp [World.shape?,hb]
   have hfz:W.frozen? ⟨L.blk,0,none⟩=false:=by
     obtain ⟨lo,hi⟩:=fr
     have:=hfr 0 (by omega)
     simp only at this
     simp only [World.frozen?,hb,Bool.and_eq_false_iff,decide_eq_false_iff_not]
     omega
   refine Calls.mono (Any.Builder_copyCheck_fresh joLay240 joX.toX72 L.blk W hc hsh hfz) ?_
   rintro e w' ⟨rfl,rfl⟩
   have ew:W.setCell ⟨L.blk,0,none⟩ (.pointer (some ⟨L.blk,0,none⟩))=World.putRow W L.blk [.pointer (some ⟨L.blk,0,none⟩),b] 233 fr:=by
     simp only [World.setCell,World.putRow]
     congr 1
     apply Array.ext_getElem?
     intro k
     by_cases hk:k=L.blk
     · subst hk
       rw [Array.getElem?_modify,if_pos rfl,hb,Array.getElem?_setIfInBounds_self_of_lt (getBlk_lt hb)]
       rfl
     · rw [Array.getElem?_modify,if_neg (by omega),Array.getElem?_setIfInBounds_ne (by omega)]
   rw [ew]
   exact ⟨ι,_,.ret (.tup []),Names.le_refl _,Fput,.inr ⟨rfl,by simp only [relC,Value.cells];exact ⟨[],by simp [relL],rfl⟩⟩,rfl,rfl⟩
 · have ea:a=.pointer (some ⟨L.blk,0,none⟩):=by
     have e2:=itV_inv (a:=⟨n,.one 233,[]⟩) (rel_leaf (by intro l hh;cases hh) ra) rfl hL ho
     exact e2
   subst ea
   have hc:W.cell? ⟨L.blk,0,none⟩=some (.pointer (some ⟨L.blk,0,none⟩)):=by simp [World.cell?,hb]
   refine Calls.mono (Any.Builder_copyCheck_used joLay240 joX.toX72 L.blk W hc) ?_
   rintro e w' ⟨rfl,hw⟩
   have ew:World.putRow W L.blk [.pointer (some ⟨L.blk,0,none⟩),b] 233 fr=W:=putRow_self (by simpa using hb)
   rw [ew] at Fput
   rw [hw]
   exact ⟨ι,_,.ret (.tup []),Names.le_refl _,Fput,.inr ⟨rfl,by simp only [relC,Value.cells];exact ⟨[],by simp [relL],rfl⟩⟩,rfl,rfl⟩
def Bld (h:AH) (n:Nat) (l:List UInt8):Prop:=n < h.next∧∃ p y,(p=.ptr none∨p=bp n)∧h.m n=some (.cells true (.one 233) (.agg [p,y]))∧BufB 5 h y l∧∀ len,y≠.slc (some (⟨n,.row 5,[]⟩,0)) len
end Go.Proofs.YtcglbpjpbjaecaaGreat.Sj
namespace Go.Proofs.YtcglbpjpbjaecaaGreat.Sj
open Go Go.Ab Go.RowKit Go.Proofs
open Go.Proofs.YtcglbpjpbjaecaaGreat.Ru (Pg okP)
set_option maxRecDepth 100000
variable {h:AH}
theorem relCs_bytes' {ι:Names}:∀ {l:List UInt8} {cs:List Value},relCs Pg ι (bytesV l) cs→cs=l.map fun b=>Value.int .u8 b.toNat
 | [],cs,h=>by simpa only [bytesV,List.map_nil,relCs] using h
 | b :: l,cs,h=>by
   have e:bytesV (b :: l)=.int .u8 b.toNat :: bytesV l:=rfl
   rw [e] at h
   simp only [relCs,relC] at h
   obtain ⟨a,c,rfl,h2,rfl⟩:=h
   rw [relCs_bytes' h2];rfl
theorem stringK (n m:Nat) (p:V) (l:List UInt8) (hl:l.length≤140737488355328) (h0:l≠[]) (hp:p=.ptr none∨p=bp n)
   (hm:h.m n=some (.cells true (.one 233) (.agg [p,.slc (some (⟨m,.row 5,[]⟩,0)) l.length]))) (g3:h.m m=some (.cells true (.row 5) (.agg (bytesV l)))) :
   ACalls Pg 125 [bp n] h (fun e h'=>e=.ret (.str l)∧h'=h.kill m):=by
 have hpa:∀ l,p≠.agg l:=by rcases hp with rfl | rfl <;> intro l hh <;> cases hh
 intro B ι W vs F r
 obtain ⟨v0,vs0,q0,r0,rfl⟩:=relL_cons_iff.1 r
 simp only [relL] at r0
 subst r0
 obtain ⟨L,a,b,fr,hL,ho,hsz,hty,hbk,ra,rb,hfr⟩:=bld_obj F hm hpa (by intro l hh;cases hh)
 obtain rfl:=ptr_addr hL ho hty q0
 have rb':rel Pg ι (.slc (some (⟨m,.row 5,[]⟩,0)) l.length) b:=rel_leaf (by intro l hh;cases hh) rb
 obtain ⟨x,cap,rfl,hcap,hrow⟩:=rel_slc rb'
 have hl0:0 < l.length:=List.length_pos_iff.2 h0
 obtain ⟨L2,o,e,k1,k2,k3,k4,k5⟩:=hrow (by omega)
 obtain ⟨L3,j1,j2,j3,ca,cb,cc,elem,fr2,j4,j5,j6,j7,j8⟩:=F.obj _ _ g3
 rw [k1] at j1;cases j1
 have hro:Go.Ab.rowAt Pg (.row 5) []=some (0,5):=rfl
 rw [hro] at k3;cases k3
 have hcb:cb=l.map fun b=>Value.int .u8 b.toNat:=relCs_bytes' (by simpa only [relC] using j7)
 have hel:elem=5:=(j8 rfl).2
 subst hel
 have hx:x=⟨L2.blk,L2.off,none⟩:=by rw [k4];simp
 subst hx
 have hcell:∀ j x,l[j]?=some x→W.cell? ((⟨L2.blk,L2.off,none⟩:Addr).add j)=some (.int .u8 x.toNat):=by
   intro j x hj
   rw [addr_add,← j5]
   refine cell_in j4 j _ ?_
   rw [hcb,List.getElem?_map,hj];rfl
 have key:=strAt joLay169 joX L.blk L2.blk L2.off cap a (ca++cb++cc).toArray fr fr2 l W hbk j4 h0 (by omega) (by
   rw [hcb,← j5];simp) (by omega) hcell
 refine Calls.mono key ?_
 rintro e w' ⟨rfl,rfl⟩
 obtain ⟨fr3,hfr3⟩:∃ fr3,W.drew.freeze ⟨L2.blk,L2.off,none⟩ l.length=(World.putRow W L2.blk (ca++cb++cc) 5 fr3).drew:=by
   obtain ⟨lo,hi⟩:=fr2
   refine ⟨if lo == hi then (L2.off,L2.off + l.length) else (min lo L2.off,max hi (L2.off + l.length)),?_⟩
   simp only [World.freeze,World.drew,World.putRow,if_neg (show ¬ l.length=0 by omega)]
   congr 1
   apply Array.ext_getElem?
   intro k
   by_cases hk:k=L2.blk
   · subst hk
     rw [Array.getElem?_modify,if_pos rfl,j4,Array.getElem?_setIfInBounds_self_of_lt (getBlk_lt j4)]
     rfl
   · rw [Array.getElem?_modify,if_neg (by omega),Array.getElem?_setIfInBounds_ne (by omega)]
 rw [hfr3]
 have Fk:=F.letGo g3 rfl k1 (ca++cb++cc) 5 fr3
 exact ⟨ι,h.kill m,.ret (.str l),Names.le_refl _,Fk.drew _,.inr ⟨rfl,by simp only [relC,Value.cells]⟩,rfl,rfl⟩
end Go.Proofs.YtcglbpjpbjaecaaGreat.Sj
namespace Go.Proofs.YtcglbpjpbjaecaaGreat.Sj
open Go Go.Ab Go.RowKit Go.Proofs
open Go.Proofs.YtcglbpjpbjaecaaGreat.Ru (Pg okP)
set_option maxRecDepth 100000
variable {h:AH}
structure BldF (h:AH) (n:Nat) (l:List UInt8) (b0:Nat):Prop where
 bld:Bld h n l
 young:∀ y p,h.m n=some (.cells true (.one 233) (.agg [p,y]))→∀ k,k < b0→∀ len,y≠.slc (some (⟨k,.row 5,[]⟩,0)) len
 none:l=[]→∃ p,h.m n=some (.cells true (.one 233) (.agg [p,.slc none 0]))
theorem BldF.keep {h':AH} {n b0:Nat} {l:List UInt8} (b:BldF h n l b0) (hn:h.next≤h'.next) (hk:∀ k,k < h.next→h'.m k=h.m k):BldF h' n l b0:=by
 obtain ⟨⟨h1,p,y,h2,h3,h4,h5⟩,y1,z1⟩:=b
 have e:=hk n h1
 exact ⟨⟨by omega,p,y,h2,e.trans h3,h4.keep hn hk,h5⟩,fun y p hh=>y1 y p (e▸hh),fun hl=>by obtain ⟨p,hp⟩:=z1 hl;exact ⟨p,e.trans hp⟩⟩
end Go.Proofs.YtcglbpjpbjaecaaGreat.Sj
namespace Go.Proofs.YtcglbpjpbjaecaaGreat.Sh
open Go Go.Ab Go.RowKit
open Go.Proofs.YtcglbpjpbjaecaaGreat.Ru (Pg okP)
set_option maxRecDepth 10000
def EvsAt (h:AH) (xs:List V) (l:List Ev):Prop:=xs.length=l.length∧∀ (i:Nat) (e:Ev),l[i]?=some e→∃ k,xs[i]?=some (evV e k)∧KeepB h k e.keep
theorem EvsAt.keep {h h':AH} {xs:List V} {l:List Ev} (b:EvsAt h xs l) (hn:h.next≤h'.next) (hk:∀ n,n < h.next→h'.m n=h.m n):EvsAt h' xs l :=
 ⟨b.1,fun i e he=>let ⟨k,h1,h2⟩:=b.2 i e he;⟨k,h1,h2.keep hn hk⟩⟩
def ScrB (h:AH) (x:V) (l:List Ev):Prop :=
 (x=.slc none 0∧l=[])∨∃ n xs,n < h.next∧x=.slc (some (⟨n,.row 73,[]⟩,0)) l.length∧h.m n=some (.cells true (.row 73) (.agg xs))∧EvsAt h xs l
theorem ScrB.keep {h h':AH} {x:V} {l:List Ev} (b:ScrB h x l) (hn:h.next≤h'.next) (hk:∀ n,n < h.next→h'.m n=h.m n):ScrB h' x l:=by
 rcases b with ⟨rfl,rfl⟩ | ⟨n,xs,h1,rfl,h3,h4⟩
 · exact .inl ⟨rfl,rfl⟩
 · exact .inr ⟨n,xs,by omega,rfl,(hk n h1).trans h3,h4.keep hn hk⟩
theorem ScrB.shape {h:AH} {x:V} {l:List Ev} (b:ScrB h x l):∃ a,x=.slc a l.length:=by
 rcases b with ⟨rfl,rfl⟩ | ⟨n,xs,h1,rfl,h3,h4⟩ <;> exact ⟨_,rfl⟩
theorem ScrB.at {h:AH} {x:V} {l:List Ev} (b:ScrB h x l) {i:Nat} {e:Ev} (he:l[i]?=some e) :
   ∃ n xs k,n < h.next∧x=.slc (some (⟨n,.row 73,[]⟩,0)) l.length∧h.m n=some (.cells true (.row 73) (.agg xs))∧xs[i]?=some (evV e k)∧KeepB h k e.keep:=by
 rcases b with ⟨_,rfl⟩ | ⟨n,xs,h1,h2,h3,h4⟩
 · cases he
 · obtain ⟨k,k1,k2⟩:=h4.2 i e he
   exact ⟨n,xs,k,h1,h2,h3,k1,k2⟩
end Go.Proofs.YtcglbpjpbjaecaaGreat.Sh
namespace Go.Ab
open Go
def floB (h:AH) (r:Option (AO × (Nat→V))) (K:V→AH→Prop):Prop :=
 match r with
 | some (ob,mk)=>(∀ n o,h.m n=some o→o.isOwn=true)∧K (mk h.next) (h.make ob)
 | none=>False
theorem flo_mk {P:Program} {h:AH} {t:TypeId} {z:V} {K:V→AH→Prop} (hz:zeroV P t=some z) (hs:hasShape P z t=true) (ho:oldV (fun _=>false) z=true) (hown:∀ n o,h.m n=some o→o.isOwn=true)
   (k:K (.ptr (some ⟨h.next,.one t,[]⟩)) (h.make (.cells true (.one t) z))):floB h (floOp P (fun _=>.und) (.alloc t)) K:=by
 simp only [floB,floOp,hz,hs,ho,Bool.and_self,if_true]
 exact ⟨hown,k⟩
end Go.Ab
namespace Go.Proofs.YtcglbpjpbjaecaaGreat.Sh
open Go Go.Ab Go.RowKit
open Go.Proofs.YtcglbpjpbjaecaaGreat.Ru (Pg okP)
set_option maxRecDepth 100000
noncomputable def B7:Code:=(Tryz.f7.body).getD .skip
def R7:List ResultVar:=[.tmp 2]
abbrev N7:Nat:=41
def K7:KT:=(.seq .leaf (.join (.seq .leaf (.two (.seq .leaf .leaf [2]) .leaf) [0,11]) (.seq .leaf (.seq .leaf (.join (.reg [[5,8,28,31],[33,36],[38,39]]) .leaf [2]) [3,4,5,6,7,8]) [0,3,4,5]) [0]) [0])
def Jz5p (Q:AEnd→AH→Prop) (x2:V) (h:AH):Prop:=vcAt Pg N7 B7 K7 [1,1,1,1,1] [] (vcRet Pg R7 Q) [(2,x2)] h
def Gz1u (Q:AEnd→AH→Prop) (x38 x39:V) (h:AH):Prop:=segAt Pg N7 B7 K7 [1,1,1,1,0] 6 3 [] (vcRet Pg R7 Q) [(38,x38),(39,x39)] h
def Gz1t (Q:AEnd→AH→Prop) (x33 x36:V) (h:AH):Prop:=segAt Pg N7 B7 K7 [1,1,1,1,0] 4 2 [] (vcRet Pg R7 Q) [(33,x33),(36,x36)] h
def Gz1s (Q:AEnd→AH→Prop) (x5 x8 x28 x31:V) (h:AH):Prop:=segAt Pg N7 B7 K7 [1,1,1,1,0] 2 1 [] (vcRet Pg R7 Q) [(5,x5),(8,x8),(28,x28),(31,x31)] h
def Jz5o (Q:AEnd→AH→Prop) (x0:V) (h:AH):Prop:=vcAt Pg N7 B7 K7 [1,1] [] (vcRet Pg R7 Q) [(0,x0)] h
theorem Jz5p_eq (Q:AEnd→AH→Prop) (x2:V) (h:AH):Jz5p Q x2 h=(
 Q (.ret x2) h):=by kernel_rfl
theorem Gz1u_eq (Q:AEnd→AH→Prop) (x38 x39:V) (h:AH):Gz1u Q x38 x39 h=(
 bindV (aPick x38 x39 (V.bool false) h) fun v29 h30 =>
 Meet (Jz5p Q v29 h30)):=by kernel_rfl
theorem Gz1t_eq (Q:AEnd→AH→Prop) (x33 x36:V) (h:AH):Gz1t Q x33 x36 h=(
 bindV (aPick x33 x36 (V.bool false) h) fun v27 h28 =>
 vcG v27 true (
 ACalls Pg 42 [] h28 (aEnd (fun v31 h32 =>
 Meet (Gz1u Q v27 v31 h32)) fun v h=>Q (.panic v) h)) (Meet (Gz1u Q v27 hole h28))):=by kernel_rfl
theorem Gz1s_eq (Q:AEnd→AH→Prop) (x5 x8 x28 x31:V) (h:AH):Gz1s Q x5 x8 x28 x31 h=(
 bindV (aPick x28 x31 (V.bool false) h) fun v25 h26 =>
 vcG v25 true (
 bindV (still (aBin Pg .eql 3 x5 x8 false) h26) fun v33 h34 =>
 Meet (Gz1t Q v25 v33 h34)) (Meet (Gz1t Q v25 hole h26))):=by kernel_rfl
theorem Jz5o_eq (Q:AEnd→AH→Prop) (x0:V) (h:AH):Jz5o Q x0 h=(
 ACalls Pg 43 [x0] h (aEnd (fun v7 h8 =>
 bindV (still (aExtract v7 0) h8) fun v9 h10 =>
 bindV (still (aExtract v7 1) h10) fun v11 h12 =>
 bindV (still (aExtract v7 2) h12) fun v13 h14 =>
 ACalls Pg 44 [x0] h14 (aEnd (fun v15 h16 =>
 bindV (still (aExtract v15 0) h16) fun v17 h18 =>
 bindV (still (aExtract v15 1) h18) fun v19 h20 =>
 bindV (still (aExtract v15 2) h20) fun v21 h22 =>
 ACalls Pg 45 [v9,v17] h22 (aEnd (fun v23 h24 =>
 vcG v23 true (
 bindV (still (aBin Pg .eql 3 v11 v19 false) h24) fun v35 h36 =>
 Meet (Gz1s Q v13 v21 v23 v35 h36)) (Meet (Gz1s Q v13 v21 v23 hole h24))) fun v h=>Q (.panic v) h)) fun v h=>Q (.panic v) h)) fun v h=>Q (.panic v) h)):=by kernel_rfl
theorem S7 (Q:AEnd→AH→Prop) (a0:V) (h:AH):vc Pg N7 B7 K7 (vcRet Pg R7 Q) (initEnv 0 [a0]) h=(
 bindV (aBuiltin Pg h .len [9] [a0]) fun v1 h2 =>
 bindV (still (aBin Pg .gtr 3 v1 (V.int .i64 262144) true) h2) fun v3 h4 =>
 vcIf v3 (
 ACalls Pg 42 [] h4 (aEnd (fun v5 h6 =>
 Q (.ret v5) h6) fun v h=>Q (.panic v) h)) (
 Meet (Jz5o Q a0 h4))):=by kernel_rfl
theorem C7 (Q:AEnd→AH→Prop) (a0:V) (h:AH) (c :
 bindV (aBuiltin Pg h .len [9] [a0]) fun v1 h2 =>
 bindV (still (aBin Pg .gtr 3 v1 (V.int .i64 262144) true) h2) fun v3 h4 =>
 vcIf v3 (
 ACalls Pg 42 [] h4 (aEnd (fun v5 h6 =>
 Q (.ret v5) h6) fun v h=>Q (.panic v) h)) (
 Meet (Jz5o Q a0 h4))):ACalls Pg 7 [a0] h Q :=
 acalls_of_vc okP Tryz.func7 (show Tryz.f7.body=some B7 from by kernel_rfl) K7 (by rw [← S7 Q a0 h] at c;exact c)
noncomputable def B43:Code:=(Tryz.f43.body).getD .skip
def R43:List ResultVar:=[.tmp 2,.tmp 3,.tmp 4]
abbrev N43:Nat:=46
def K43:KT:=(.seq .leaf (.join (.seq .leaf (.two (.seq .leaf .leaf [2,3,4]) .leaf) [0,14]) (.seq .leaf (.join (.seq .leaf (.one (.loop (.join (.seq .leaf (.two .leaf .leaf) [0,5,6,16]) (.join (.one (.seq .leaf (.join (.seq .leaf (.two (.seq .leaf .leaf [2,3,4]) .leaf) [5,6,7,8,9,26]) (.seq .leaf (.join (.join (.reg [[5,6,8,10,35,37]]) (.two (.seq .leaf .leaf [2,3,4]) .leaf) [5,6,8,10,38]) (.seq .leaf .leaf [5,6,8]) [5,6,8,10]) [5,6,8,9,10,11]) [5,6,7,8,9]) [5,6,7,8,9])) .leaf [0,5,6]) [0,5,6]) [0,5,6])) [0,5,6]) (.seq .leaf .leaf [2,3,4]) [5]) [0,5]) [0]) [0])
def Jz55 (Q:AEnd→AH→Prop) (n:Nat) (x0 x5 x6:V) (h:AH):Prop:=vcAt Pg N43 B43 K43 [1,1,1,0,1,0,0,1,1] [n] (vcRet Pg R43 Q) [(0,x0),(5,x5),(6,x6)] h
def Jz54 (Q:AEnd→AH→Prop) (n:Nat) (x5 x6 x8 x10:V) (h:AH):Prop:=vcAt Pg N43 B43 K43 [1,1,1,0,1,0,0,1,0,0,1,1,1,1] [n] (vcRet Pg R43 Q) [(5,x5),(6,x6),(8,x8),(10,x10)] h
def Jz53 (Q:AEnd→AH→Prop) (n:Nat) (x5 x6 x8 x10 x38:V) (h:AH):Prop:=vcAt Pg N43 B43 K43 [1,1,1,0,1,0,0,1,0,0,1,1,1,0,1] [n] (vcRet Pg R43 Q) [(5,x5),(6,x6),(8,x8),(10,x10),(38,x38)] h
def Gz1n (Q:AEnd→AH→Prop) (n:Nat) (x5 x6 x8 x10 x35 x37:V) (h:AH):Prop:=segAt Pg N43 B43 K43 [1,1,1,0,1,0,0,1,0,0,1,1,1,0,0] 2 1 [n] (vcRet Pg R43 Q) [(5,x5),(6,x6),(8,x8),(10,x10),(35,x35),(37,x37)] h
def Jz52 (Q:AEnd→AH→Prop) (n:Nat) (x5 x6 x7 x8 x9:V) (h:AH):Prop:=vcAt Pg N43 B43 K43 [1,1,1,0,1,0,0,1,0,0,1,1] [n] (vcRet Pg R43 Q) [(5,x5),(6,x6),(7,x7),(8,x8),(9,x9)] h
def Jz51 (Q:AEnd→AH→Prop) (n:Nat) (x0 x5 x6:V) (h:AH):Prop:=vcAt Pg N43 B43 K43 [1,1,1,0,1,0,0,1] [n] (vcRet Pg R43 Q) [(0,x0),(5,x5),(6,x6)] h
def Jz56 (Q:AEnd→AH→Prop) (x5:V) (h:AH):Prop:=vcAt Pg N43 B43 K43 [1,1,1,1] [] (vcRet Pg R43 Q) [(5,x5)] h
def Lz6b (Q:AEnd→AH→Prop) (n:Nat) (x0 x5 x6:V) (h:AH):Prop:=loopAt Pg N43 B43 K43 [1,1,1,0,1,0] [] n (vcRet Pg R43 Q) [(0,x0),(5,x5),(6,x6)] h
def Jz50 (Q:AEnd→AH→Prop) (x0:V) (h:AH):Prop:=vcAt Pg N43 B43 K43 [1,1] [] (vcRet Pg R43 Q) [(0,x0)] h
theorem Jz55_eq (Q:AEnd→AH→Prop) (n:Nat) (x0 x5 x6:V) (h:AH):Jz55 Q n x0 x5 x6 h=(
 bindV (still (aBin Pg .add 3 x6 (V.int .i64 1) true) h) fun v37 h38 =>
 Meet (Lz6b Q n x0 x5 v37 h38)):=by kernel_rfl
theorem Jz54_eq (Q:AEnd→AH→Prop) (n:Nat) (x5 x6 x8 x10:V) (h:AH):Jz54 Q n x5 x6 x8 x10 h=(
 bindV (aLoadV Pg h 73 x10) fun v31 h32 =>
 bindV (aBuildSlice Pg h32 84 1 [(0,v31)]) fun v33 h34 =>
 bindV (aBuiltin Pg h34 .append [84,84] [x5,v33]) fun v35 h36 =>
 Meet (Jz55 Q n x8 v35 x6 h36)):=by kernel_rfl
theorem Jz53_eq (Q:AEnd→AH→Prop) (n:Nat) (x5 x6 x8 x10 x38:V) (h:AH):Jz53 Q n x5 x6 x8 x10 x38 h=(
 vcIf x38 (
 Q (.ret (V.tup [(V.slc none 0),x6,(V.int .i64 2)])) h) (
 Meet (Jz54 Q n x5 x6 x8 x10 h))):=by kernel_rfl
theorem Gz1n_eq (Q:AEnd→AH→Prop) (n:Nat) (x5 x6 x8 x10 x35 x37:V) (h:AH):Gz1n Q n x5 x6 x8 x10 x35 x37 h=(
 bindV (aPick x35 (V.bool true) x37 h) fun v29 h30 =>
 Meet (Jz53 Q n x5 x6 x8 x10 v29 h30)):=by kernel_rfl
theorem Jz52_eq (Q:AEnd→AH→Prop) (n:Nat) (x5 x6 x7 x8 x9:V) (h:AH):Jz52 Q n x5 x6 x7 x8 x9 h=(
 ACalls Pg 112 [x7] h (aEnd (fun v17 h18 =>
 bindV (still (aExtract v17 0) h18) fun v19 h20 =>
 bindV (still (aExtract v17 1) h20) fun v21 h22 =>
 bindV (aAlloc Pg h22 73) fun v23 h24 =>
 bindV (aStoreV Pg h24 73 v23 v19) fun _ h26 =>
 bindV (still (aUn .not x9) h26) fun v27 h28 =>
 vcG v27 false (
 bindV (still (aUn .not v21) h28) fun v39 h40 =>
 Meet (Gz1n Q n x5 x6 x8 v23 v27 v39 h40)) (Meet (Gz1n Q n x5 x6 x8 v23 v27 hole h28))) fun v h=>Q (.panic v) h)):=by kernel_rfl
theorem Jz51_eq (Q:AEnd→AH→Prop) (n:Nat) (x0 x5 x6:V) (h:AH):Jz51 Q n x0 x5 x6 h=(
 ACalls Pg 111 [x0,(V.str [10])] h (aEnd (fun v7 h8 =>
 bindV (still (aExtract v7 0) h8) fun v9 h10 =>
 bindV (still (aExtract v7 1) h10) fun v11 h12 =>
 bindV (still (aExtract v7 2) h12) fun v13 h14 =>
 bindV (still (aBin Pg .gtr 3 x6 (V.int .i64 2000) true) h14) fun v15 h16 =>
 vcIf v15 (
 Q (.ret (V.tup [(V.slc none 0),x6,(V.int .i64 10)])) h16) (
 Meet (Jz52 Q n x5 x6 v9 v11 v13 h16))) fun v h=>Q (.panic v) h)):=by kernel_rfl
theorem Jz56_eq (Q:AEnd→AH→Prop) (x5:V) (h:AH):Jz56 Q x5 h=(
 Q (.ret (V.tup [x5,(V.int .i64 0),(V.int .i64 0)])) h):=by kernel_rfl
theorem Lz6b_eq (Q:AEnd→AH→Prop) (n:Nat) (x0 x5 x6:V) (h:AH):Lz6b Q (n + 1) x0 x5 x6 h=(
 bindV (still (aBin Pg .neq 9 x0 (V.str []) true) h) fun v5 h6 =>
 vcIf v5 (
 Meet (Jz51 Q n x0 x5 x6 h6)) (
 Meet (Jz56 Q x5 h6))):=by kernel_rfl
theorem Jz50_eq (Q:AEnd→AH→Prop) (x0:V) (h:AH):Jz50 Q x0 h=(
 ∃ n,Meet (Lz6b Q n x0 (V.slc none 0) (V.int .i64 1) h)):=by kernel_rfl
theorem S43 (Q:AEnd→AH→Prop) (a0:V) (h:AH):vc Pg N43 B43 K43 (vcRet Pg R43 Q) (initEnv 0 [a0]) h=(
 bindV (aBuiltin Pg h .len [9] [a0]) fun v1 h2 =>
 bindV (still (aBin Pg .gtr 3 v1 (V.int .i64 131072) true) h2) fun v3 h4 =>
 vcIf v3 (
 Q (.ret (V.tup [(V.slc none 0),(V.int .i64 0),(V.int .i64 10)])) h4) (
 Meet (Jz50 Q a0 h4))):=by kernel_rfl
theorem C43 (Q:AEnd→AH→Prop) (a0:V) (h:AH) (c :
 bindV (aBuiltin Pg h .len [9] [a0]) fun v1 h2 =>
 bindV (still (aBin Pg .gtr 3 v1 (V.int .i64 131072) true) h2) fun v3 h4 =>
 vcIf v3 (
 Q (.ret (V.tup [(V.slc none 0),(V.int .i64 0),(V.int .i64 10)])) h4) (
 Meet (Jz50 Q a0 h4))):ACalls Pg 43 [a0] h Q :=
 acalls_of_vc okP Tryz.func43 (show Tryz.f43.body=some B43 from by kernel_rfl) K43 (by rw [← S43 Q a0 h] at c;exact c)
noncomputable def B44:Code:=(Tryz.f44.body).getD .skip
def R44:List ResultVar:=[.tmp 2,.tmp 3,.tmp 4]
abbrev N44:Nat:=57
def K44:KT:=(.seq .leaf (.join (.seq .leaf (.two (.seq .leaf .leaf [2,3,4]) .leaf) [0,13]) (.seq .leaf (.seq .leaf (.join (.seq .leaf (.one (.loop (.join (.seq .leaf (.two .leaf .leaf) [0,5,6,7,8,17]) (.join (.one (.join (.seq .leaf (.two .leaf .leaf) [0,5,6,7,8,23]) (.seq .leaf (.join (.seq .leaf (.two (.seq .leaf .leaf [2,3,4]) .leaf) [0,5,6,7,8,27]) (.seq .leaf (.join (.seq .leaf (.two (.seq .leaf .leaf [2,3,4]) .leaf) [0,5,7,8,9,38]) (.seq .leaf .leaf [0,5,7,8]) [0,5,7,8,9]) [0,5,7,8,9,10]) [0,5,6,7,8]) [0,5,6,7,8]) [0,5,6,7,8])) .leaf [0,5,6,7,8]) [0,5,6,7,8]) [0,5,6,7,8])) [0,5,6,7,8]) (.join (.seq .leaf (.two (.join (.seq .leaf (.two (.seq .leaf .leaf [2,3,4]) .leaf) [7,51]) (.seq .leaf .leaf [2,3,4]) [7]) .leaf) [5,7,49]) (.seq .leaf .leaf [2,3,4]) [5]) [0,5,6,7]) [0,5,6,7]) [0,5]) [0]) [0])
def Jz5c (Q:AEnd→AH→Prop) (n:Nat) (x0 x5 x6 x7 x8:V) (h:AH):Prop:=vcAt Pg N44 B44 K44 [1,1,1,1,0,1,0,0,1,1] [n] (vcRet Pg R44 Q) [(0,x0),(5,x5),(6,x6),(7,x7),(8,x8)] h
def Jz5b (Q:AEnd→AH→Prop) (n:Nat) (x0 x5 x7 x8 x9:V) (h:AH):Prop:=vcAt Pg N44 B44 K44 [1,1,1,1,0,1,0,0,1,0,0,1,1,1,1,1] [n] (vcRet Pg R44 Q) [(0,x0),(5,x5),(7,x7),(8,x8),(9,x9)] h
def Jz5a (Q:AEnd→AH→Prop) (n:Nat) (x0 x5 x6 x7 x8:V) (h:AH):Prop:=vcAt Pg N44 B44 K44 [1,1,1,1,0,1,0,0,1,0,0,1,1,1] [n] (vcRet Pg R44 Q) [(0,x0),(5,x5),(6,x6),(7,x7),(8,x8)] h
def Jz59 (Q:AEnd→AH→Prop) (n:Nat) (x0 x5 x6 x7 x8:V) (h:AH):Prop:=vcAt Pg N44 B44 K44 [1,1,1,1,0,1,0,0,1,0,0,1] [n] (vcRet Pg R44 Q) [(0,x0),(5,x5),(6,x6),(7,x7),(8,x8)] h
def Jz58 (Q:AEnd→AH→Prop) (n:Nat) (x0 x5 x6 x7 x8:V) (h:AH):Prop:=vcAt Pg N44 B44 K44 [1,1,1,1,0,1,0,0,1] [n] (vcRet Pg R44 Q) [(0,x0),(5,x5),(6,x6),(7,x7),(8,x8)] h
def Jz5e (Q:AEnd→AH→Prop) (x7:V) (h:AH):Prop:=vcAt Pg N44 B44 K44 [1,1,1,1,1,0,1,0,1] [] (vcRet Pg R44 Q) [(7,x7)] h
def Jz5f (Q:AEnd→AH→Prop) (x5:V) (h:AH):Prop:=vcAt Pg N44 B44 K44 [1,1,1,1,1,1] [] (vcRet Pg R44 Q) [(5,x5)] h
def Jz5d (Q:AEnd→AH→Prop) (x0 x5 x6 x7:V) (h:AH):Prop:=vcAt Pg N44 B44 K44 [1,1,1,1,1] [] (vcRet Pg R44 Q) [(0,x0),(5,x5),(6,x6),(7,x7)] h
def Lz6c (Q:AEnd→AH→Prop) (n:Nat) (x0 x5 x6 x7 x8:V) (h:AH):Prop:=loopAt Pg N44 B44 K44 [1,1,1,1,0,1,0] [] n (vcRet Pg R44 Q) [(0,x0),(5,x5),(6,x6),(7,x7),(8,x8)] h
def Jz57 (Q:AEnd→AH→Prop) (x0:V) (h:AH):Prop:=vcAt Pg N44 B44 K44 [1,1] [] (vcRet Pg R44 Q) [(0,x0)] h
theorem Jz5c_eq (Q:AEnd→AH→Prop) (n:Nat) (x0 x5 x6 x7 x8:V) (h:AH):Jz5c Q n x0 x5 x6 x7 x8 h=(
 bindV (still (aBin Pg .add 3 x8 (V.int .i64 1) true) h) fun v13 h14 =>
 Meet (Lz6c Q n x0 x5 x6 x7 v13 h14)):=by kernel_rfl
theorem Jz5b_eq (Q:AEnd→AH→Prop) (n:Nat) (x0 x5 x7 x8 x9:V) (h:AH):Jz5b Q n x0 x5 x7 x8 x9 h=(
 bindV (aLoadV Pg h 73 x9) fun v33 h34 =>
 bindV (aBuildSlice Pg h34 84 1 [(0,v33)]) fun v35 h36 =>
 bindV (aBuiltin Pg h36 .append [84,84] [x5,v35]) fun v37 h38 =>
 bindV (still (aBin Pg .add 3 x8 (V.int .i64 1) true) h38) fun v39 h40 =>
 Meet (Jz5c Q n x0 v37 v39 x7 x8 h40)):=by kernel_rfl
theorem Jz5a_eq (Q:AEnd→AH→Prop) (n:Nat) (x0 x5 x6 x7 x8:V) (h:AH):Jz5a Q n x0 x5 x6 x7 x8 h=(
 bindV (still (aSlice Pg h 9 x0 (some x6) (some x8)) h) fun v19 h20 =>
 ACalls Pg 113 [v19] h20 (aEnd (fun v21 h22 =>
 bindV (still (aExtract v21 0) h22) fun v23 h24 =>
 bindV (still (aExtract v21 1) h24) fun v25 h26 =>
 bindV (aAlloc Pg h26 73) fun v27 h28 =>
 bindV (aStoreV Pg h28 73 v27 v23) fun _ h30 =>
 bindV (still (aUn .not v25) h30) fun v31 h32 =>
 vcIf v31 (
 Q (.ret (V.tup [(V.slc none 0),x7,(V.int .i64 2)])) h32) (
 Meet (Jz5b Q n x0 x5 x7 x8 v27 h32))) fun v h=>Q (.panic v) h)):=by kernel_rfl
theorem Jz59_eq (Q:AEnd→AH→Prop) (n:Nat) (x0 x5 x6 x7 x8:V) (h:AH):Jz59 Q n x0 x5 x6 x7 x8 h=(
 bindV (still (aBin Pg .add 3 x7 (V.int .i64 1) true) h) fun v15 h16 =>
 bindV (still (aBin Pg .gtr 3 v15 (V.int .i64 2000) true) h16) fun v17 h18 =>
 vcIf v17 (
 Q (.ret (V.tup [(V.slc none 0),v15,(V.int .i64 10)])) h18) (
 Meet (Jz5a Q n x0 x5 x6 v15 x8 h18))):=by kernel_rfl
theorem Jz58_eq (Q:AEnd→AH→Prop) (n:Nat) (x0 x5 x6 x7 x8:V) (h:AH):Jz58 Q n x0 x5 x6 x7 x8 h=(
 bindV (still (aIndex Pg 9 x0 x8) h) fun v9 h10 =>
 bindV (still (aBin Pg .neq 5 v9 (V.int .u8 10) true) h10) fun v11 h12 =>
 vcIf v11 (
 Meet (Jz5c Q n x0 x5 x6 x7 x8 h12)) (
 Meet (Jz59 Q n x0 x5 x6 x7 x8 h12))):=by kernel_rfl
theorem Jz5e_eq (Q:AEnd→AH→Prop) (x7:V) (h:AH):Jz5e Q x7 h=(
 bindV (still (aBin Pg .add 3 x7 (V.int .i64 1) true) h) fun v49 h50 =>
 Q (.ret (V.tup [(V.slc none 0),v49,(V.int .i64 2)])) h50):=by kernel_rfl
theorem Jz5f_eq (Q:AEnd→AH→Prop) (x5:V) (h:AH):Jz5f Q x5 h=(
 Q (.ret (V.tup [x5,(V.int .i64 0),(V.int .i64 0)])) h):=by kernel_rfl
theorem Jz5d_eq (Q:AEnd→AH→Prop) (x0 x5 x6 x7:V) (h:AH):Jz5d Q x0 x5 x6 x7 h=(
 bindV (aBuiltin Pg h .len [9] [x0]) fun v41 h42 =>
 bindV (still (aBin Pg .lss 3 x6 v41 false) h42) fun v43 h44 =>
 vcIf v43 (
 bindV (still (aBin Pg .eql 3 x7 (V.int .i64 2000) true) h44) fun v45 h46 =>
 vcIf v45 (
 bindV (still (aBin Pg .add 3 x7 (V.int .i64 1) true) h46) fun v47 h48 =>
 Q (.ret (V.tup [(V.slc none 0),v47,(V.int .i64 10)])) h48) (
 Meet (Jz5e Q x7 h46))) (
 Meet (Jz5f Q x5 h44))):=by kernel_rfl
theorem Lz6c_eq (Q:AEnd→AH→Prop) (n:Nat) (x0 x5 x6 x7 x8:V) (h:AH):Lz6c Q (n + 1) x0 x5 x6 x7 x8 h=(
 bindV (aBuiltin Pg h .len [9] [x0]) fun v5 h6 =>
 bindV (still (aBin Pg .lss 3 x8 v5 false) h6) fun v7 h8 =>
 vcIf v7 (
 Meet (Jz58 Q n x0 x5 x6 x7 x8 h8)) (
 Meet (Jz5d Q x0 x5 x6 x7 h8))):=by kernel_rfl
theorem Jz57_eq (Q:AEnd→AH→Prop) (x0:V) (h:AH):Jz57 Q x0 h=(
 ∃ n,Meet (Lz6c Q n x0 (V.slc none 0) (V.int .i64 0) (V.int .i64 0) (V.int .i64 0) h)):=by kernel_rfl
theorem S44 (Q:AEnd→AH→Prop) (a0:V) (h:AH):vc Pg N44 B44 K44 (vcRet Pg R44 Q) (initEnv 0 [a0]) h=(
 bindV (aBuiltin Pg h .len [9] [a0]) fun v1 h2 =>
 bindV (still (aBin Pg .gtr 3 v1 (V.int .i64 131072) true) h2) fun v3 h4 =>
 vcIf v3 (
 Q (.ret (V.tup [(V.slc none 0),(V.int .i64 0),(V.int .i64 10)])) h4) (
 Meet (Jz57 Q a0 h4))):=by kernel_rfl
theorem C44 (Q:AEnd→AH→Prop) (a0:V) (h:AH) (c :
 bindV (aBuiltin Pg h .len [9] [a0]) fun v1 h2 =>
 bindV (still (aBin Pg .gtr 3 v1 (V.int .i64 131072) true) h2) fun v3 h4 =>
 vcIf v3 (
 Q (.ret (V.tup [(V.slc none 0),(V.int .i64 0),(V.int .i64 10)])) h4) (
 Meet (Jz57 Q a0 h4))):ACalls Pg 44 [a0] h Q :=
 acalls_of_vc okP Tryz.func44 (show Tryz.f44.body=some B44 from by kernel_rfl) K44 (by rw [← S44 Q a0 h] at c;exact c)
noncomputable def B45:Code:=(Tryz.f45.body).getD .skip
def R45:List ResultVar:=[.tmp 4]
abbrev N45:Nat:=81
def K45:KT:=(.seq .leaf (.join (.seq .leaf (.two (.seq .leaf .leaf [4]) .leaf) [0,1,13]) (.join (.seq .leaf (.one (.loop (.seq .leaf (.join (.two .leaf .leaf) (.join (.one (.seq .leaf (.seq (.flo [8,9,10,11] [8,9] 10) (.join (.join (.reg [[0,1,6,7,15,16,32,37],[0,1,6,7,15,16,39,44],[0,1,6,7,15,16,46,51],[0,1,6,7,15,16,53,60]]) (.two (.seq .leaf .leaf [4]) .leaf) [0,1,6,7,15,16,61]) (.seq .leaf (.one (.loop (.seq .leaf (.join (.two .leaf .leaf) (.join (.one (.seq .leaf (.seq .leaf (.two (.seq .leaf .leaf [4]) .leaf) [0,1,6,7,15,16,64,65,78]) [0,1,6,7,8,15,16,64,65])) .leaf [0,1,6,7,15,16,64,65]) [0,1,6,7,15,16,64,65]) [0,1,6,7,15,16,64,65,66]) [0,1,6,7,15,16,64,65])) [0,1,6,7,15,16,64,65]) [0,1,6,7,15,16]) [0,1,6,7,15,16]) [0,1,5,15,16])) .leaf [0,1,15,16]) [0,1,15,16]) [0,1,15,16,17]) [0,1,15,16])) [0,1,15,16]) (.seq .leaf .leaf [4]) []) [0,1]) [0,1])
def Jz5l (Q:AEnd→AH→Prop) (n n1:Nat) (x0 x1 x6 x7 x15 x16 x64 x65:V) (h:AH):Prop:=vcAt Pg N45 B45 K45 [1,1,0,1,0,0,1,1,0,0,1,1,1,1,0,0,1,1,1] [n,n1] (vcRet Pg R45 Q) [(0,x0),(1,x1),(6,x6),(7,x7),(15,x15),(16,x16),(64,x64),(65,x65)] h
def Jz5k (Q:AEnd→AH→Prop) (n n1:Nat) (x0 x1 x6 x7 x15 x16 x64 x65:V) (h:AH):Prop:=vcAt Pg N45 B45 K45 [1,1,0,1,0,0,1,1,0,0,1,1,1,1,0,0,1,1] [n,n1] (vcRet Pg R45 Q) [(0,x0),(1,x1),(6,x6),(7,x7),(15,x15),(16,x16),(64,x64),(65,x65)] h
def Jz5m (Q:AEnd→AH→Prop) (n:Nat) (x0 x1 x15 x16:V) (h:AH):Prop:=vcAt Pg N45 B45 K45 [1,1,0,1,0,0,1,1,1] [n] (vcRet Pg R45 Q) [(0,x0),(1,x1),(15,x15),(16,x16)] h
def Lz6e (Q:AEnd→AH→Prop) (n:Nat) (n1:Nat) (x0 x1 x6 x7 x15 x16 x64 x65:V) (h:AH):Prop:=loopAt Pg N45 B45 K45 [1,1,0,1,0,0,1,1,0,0,1,1,1,1,0] [n] n1 (vcRet Pg R45 Q) [(0,x0),(1,x1),(6,x6),(7,x7),(15,x15),(16,x16),(64,x64),(65,x65)] h
def Jz5j (Q:AEnd→AH→Prop) (n:Nat) (x0 x1 x6 x7 x15 x16:V) (h:AH):Prop:=vcAt Pg N45 B45 K45 [1,1,0,1,0,0,1,1,0,0,1,1,1] [n] (vcRet Pg R45 Q) [(0,x0),(1,x1),(6,x6),(7,x7),(15,x15),(16,x16)] h
def Jz5i (Q:AEnd→AH→Prop) (n:Nat) (x0 x1 x6 x7 x15 x16 x61:V) (h:AH):Prop:=vcAt Pg N45 B45 K45 [1,1,0,1,0,0,1,1,0,0,1,1,0,1] [n] (vcRet Pg R45 Q) [(0,x0),(1,x1),(6,x6),(7,x7),(15,x15),(16,x16),(61,x61)] h
def Gz1r (Q:AEnd→AH→Prop) (n:Nat) (x0 x1 x6 x7 x15 x16 x53 x60:V) (h:AH):Prop:=segAt Pg N45 B45 K45 [1,1,0,1,0,0,1,1,0,0,1,1,0,0] 8 4 [n] (vcRet Pg R45 Q) [(0,x0),(1,x1),(6,x6),(7,x7),(15,x15),(16,x16),(53,x53),(60,x60)] h
def Gz1q (Q:AEnd→AH→Prop) (n:Nat) (x0 x1 x6 x7 x15 x16 x46 x51:V) (h:AH):Prop:=segAt Pg N45 B45 K45 [1,1,0,1,0,0,1,1,0,0,1,1,0,0] 6 3 [n] (vcRet Pg R45 Q) [(0,x0),(1,x1),(6,x6),(7,x7),(15,x15),(16,x16),(46,x46),(51,x51)] h
def Gz1p (Q:AEnd→AH→Prop) (n:Nat) (x0 x1 x6 x7 x15 x16 x39 x44:V) (h:AH):Prop:=segAt Pg N45 B45 K45 [1,1,0,1,0,0,1,1,0,0,1,1,0,0] 4 2 [n] (vcRet Pg R45 Q) [(0,x0),(1,x1),(6,x6),(7,x7),(15,x15),(16,x16),(39,x39),(44,x44)] h
def Gz1o (Q:AEnd→AH→Prop) (n:Nat) (x0 x1 x6 x7 x15 x16 x32 x37:V) (h:AH):Prop:=segAt Pg N45 B45 K45 [1,1,0,1,0,0,1,1,0,0,1,1,0,0] 2 1 [n] (vcRet Pg R45 Q) [(0,x0),(1,x1),(6,x6),(7,x7),(15,x15),(16,x16),(32,x32),(37,x37)] h
def Jz5h (Q:AEnd→AH→Prop) (n:Nat) (x0 x1 x15 x16:V) (h:AH):Prop:=vcAt Pg N45 B45 K45 [1,1,0,1,0,0,1,1] [n] (vcRet Pg R45 Q) [(0,x0),(1,x1),(15,x15),(16,x16)] h
def Jz5n (Q:AEnd→AH→Prop) (h:AH):Prop:=vcAt Pg N45 B45 K45 [1,1,1] [] (vcRet Pg R45 Q) [] h
def Lz6d (Q:AEnd→AH→Prop) (n:Nat) (x0 x1 x15 x16:V) (h:AH):Prop:=loopAt Pg N45 B45 K45 [1,1,0,1,0] [] n (vcRet Pg R45 Q) [(0,x0),(1,x1),(15,x15),(16,x16)] h
def Jz5g (Q:AEnd→AH→Prop) (x0 x1:V) (h:AH):Prop:=vcAt Pg N45 B45 K45 [1,1] [] (vcRet Pg R45 Q) [(0,x0),(1,x1)] h
theorem Jz5l_eq (Q:AEnd→AH→Prop) (n n1:Nat) (x0 x1 x6 x7 x15 x16 x64 x65:V) (h:AH):Jz5l Q n n1 x0 x1 x6 x7 x15 x16 x64 x65 h=(
 bindV (still (aBin Pg .add 3 x65 (V.int .i64 1) true) h) fun v58 h59 =>
 Meet (Lz6e Q n n1 x0 x1 x6 x7 x15 x16 x64 v58 h59)):=by kernel_rfl
theorem Jz5k_eq (Q:AEnd→AH→Prop) (n n1:Nat) (x0 x1 x6 x7 x15 x16 x64 x65:V) (h:AH):Jz5k Q n n1 x0 x1 x6 x7 x15 x16 x64 x65 h=(
 bindO (fstV (still (aFieldAddr Pg 73 x6 4) h)) fun v49 =>
 bindO (fstV (aLoadV Pg h 71 v49)) fun v50 =>
 bindO (fstV (still (aIndexAddr Pg 71 v50 x65) h)) fun v51 =>
 bindO (fstV (aLoadV Pg h 4 v51)) fun v52 =>
 bindO (fstV (still (aFieldAddr Pg 73 x7 4) h)) fun v53 =>
 bindO (fstV (aLoadV Pg h 71 v53)) fun v54 =>
 bindO (fstV (still (aIndexAddr Pg 71 v54 x65) h)) fun v55 =>
 bindO (fstV (aLoadV Pg h 4 v55)) fun v56 =>
 bindO (fstV (still (aBin Pg .neq 4 v52 v56 false) h)) fun v57 =>
 vcIf v57 (
 Q (.ret (V.bool false)) h) (
 Meet (Jz5l Q n n1 x0 x1 x6 x7 x15 x16 x64 x65 h))):=by kernel_rfl
theorem Jz5m_eq (Q:AEnd→AH→Prop) (n:Nat) (x0 x1 x15 x16:V) (h:AH):Jz5m Q n x0 x1 x15 x16 h=(
 bindV (still (aBin Pg .add 3 x16 (V.int .i64 1) true) h) fun v60 h61 =>
 Meet (Lz6d Q n x0 x1 x15 v60 h61)):=by kernel_rfl
theorem Lz6e_eq (Q:AEnd→AH→Prop) (n:Nat) (n1:Nat) (x0 x1 x6 x7 x15 x16 x64 x65:V) (h:AH):Lz6e Q n (n1 + 1) x0 x1 x6 x7 x15 x16 x64 x65 h=(
 bindV (still (aBin Pg .lss 3 x65 x64 false) h) fun v47 h48 =>
 vcIf v47 (
 Meet (Jz5k Q n n1 x0 x1 x6 x7 x15 x16 x64 x65 h48)) (
 Meet (Jz5m Q n x0 x1 x15 x16 h48))):=by kernel_rfl
theorem Jz5j_eq (Q:AEnd→AH→Prop) (n:Nat) (x0 x1 x6 x7 x15 x16:V) (h:AH):Jz5j Q n x0 x1 x6 x7 x15 x16 h=(
 bindV (still (aFieldAddr Pg 73 x6 4) h) fun v41 h42 =>
 bindV (aLoadV Pg h42 71 v41) fun v43 h44 =>
 bindV (aBuiltin Pg h44 .len [71] [v43]) fun v45 h46 =>
 ∃ n1,Meet (Lz6e Q n n1 x0 x1 x6 x7 x15 x16 v45 (V.int .i64 0) h46)):=by kernel_rfl
theorem Jz5i_eq (Q:AEnd→AH→Prop) (n:Nat) (x0 x1 x6 x7 x15 x16 x61:V) (h:AH):Jz5i Q n x0 x1 x6 x7 x15 x16 x61 h=(
 vcIf x61 (
 Q (.ret (V.bool false)) h) (
 Meet (Jz5j Q n x0 x1 x6 x7 x15 x16 h))):=by kernel_rfl
theorem Gz1r_eq (Q:AEnd→AH→Prop) (n:Nat) (x0 x1 x6 x7 x15 x16 x53 x60:V) (h:AH):Gz1r Q n x0 x1 x6 x7 x15 x16 x53 x60 h=(
 bindV (aPick x53 (V.bool true) x60 h) fun v39 h40 =>
 Meet (Jz5i Q n x0 x1 x6 x7 x15 x16 v39 h40)):=by kernel_rfl
theorem Gz1q_eq (Q:AEnd→AH→Prop) (n:Nat) (x0 x1 x6 x7 x15 x16 x46 x51:V) (h:AH):Gz1q Q n x0 x1 x6 x7 x15 x16 x46 x51 h=(
 bindV (aPick x46 (V.bool true) x51 h) fun v37 h38 =>
 vcG v37 false (
 bindV (still (aFieldAddr Pg 73 x6 4) h38) fun v62 h63 =>
 bindV (aLoadV Pg h63 71 v62) fun v64 h65 =>
 bindV (aBuiltin Pg h65 .len [71] [v64]) fun v66 h67 =>
 bindV (still (aFieldAddr Pg 73 x7 4) h67) fun v68 h69 =>
 bindV (aLoadV Pg h69 71 v68) fun v70 h71 =>
 bindV (aBuiltin Pg h71 .len [71] [v70]) fun v72 h73 =>
 bindV (still (aBin Pg .neq 3 v66 v72 false) h73) fun v74 h75 =>
 Meet (Gz1r Q n x0 x1 x6 x7 x15 x16 v37 v74 h75)) (Meet (Gz1r Q n x0 x1 x6 x7 x15 x16 v37 hole h38))):=by kernel_rfl
theorem Gz1p_eq (Q:AEnd→AH→Prop) (n:Nat) (x0 x1 x6 x7 x15 x16 x39 x44:V) (h:AH):Gz1p Q n x0 x1 x6 x7 x15 x16 x39 x44 h=(
 bindV (aPick x39 (V.bool true) x44 h) fun v35 h36 =>
 vcG v35 false (
 bindV (still (aFieldAddr Pg 73 x6 3) h36) fun v76 h77 =>
 bindV (aLoadV Pg h77 57 v76) fun v78 h79 =>
 bindV (still (aFieldAddr Pg 73 x7 3) h79) fun v80 h81 =>
 bindV (aLoadV Pg h81 57 v80) fun v82 h83 =>
 bindV (still (aBin Pg .neq 57 v78 v82 false) h83) fun v84 h85 =>
 Meet (Gz1q Q n x0 x1 x6 x7 x15 x16 v35 v84 h85)) (Meet (Gz1q Q n x0 x1 x6 x7 x15 x16 v35 hole h36))):=by kernel_rfl
theorem Gz1o_eq (Q:AEnd→AH→Prop) (n:Nat) (x0 x1 x6 x7 x15 x16 x32 x37:V) (h:AH):Gz1o Q n x0 x1 x6 x7 x15 x16 x32 x37 h=(
 bindV (aPick x32 (V.bool true) x37 h) fun v33 h34 =>
 vcG v33 false (
 bindV (still (aFieldAddr Pg 73 x6 2) h34) fun v86 h87 =>
 bindV (aLoadV Pg h87 3 v86) fun v88 h89 =>
 bindV (still (aFieldAddr Pg 73 x7 2) h89) fun v90 h91 =>
 bindV (aLoadV Pg h91 3 v90) fun v92 h93 =>
 bindV (still (aBin Pg .neq 3 v88 v92 false) h93) fun v94 h95 =>
 Meet (Gz1p Q n x0 x1 x6 x7 x15 x16 v33 v94 h95)) (Meet (Gz1p Q n x0 x1 x6 x7 x15 x16 v33 hole h34))):=by kernel_rfl
theorem Jz5h_eq (Q:AEnd→AH→Prop) (n:Nat) (x0 x1 x15 x16:V) (h:AH):Jz5h Q n x0 x1 x15 x16 h=(
 bindO (fstV (still (aIndexAddr Pg 84 x0 x16) h)) fun v11 =>
 bindO (fstV (aLoadV Pg h 73 v11)) fun v12 =>
 (
 bindO (fstV (still (aIndexAddr Pg 84 x1 x16) h)) fun v13 =>
 bindO (fstV (aLoadV Pg h 73 v13)) fun v14 =>
 (
 floB h (floOp Pg (fun _=>.und) (.alloc 73)) fun v15 h16=>(aLoadV Pg h16 73 v13=some (v14,h16))∧(
 floB h16 (floOp Pg (fun _=>.und) (.alloc 73)) fun v17 h18=>(aLoadV Pg h18 73 v13=some (v14,h18))∧(
 bindV (aStoreV Pg h18 73 v15 v12) fun _ h20=>(aLoadV Pg h20 73 v13=some (v14,h20))∧(
 bindV (aStoreV Pg h20 73 v17 v14) fun _ h22=>(
 bindV (still (aFieldAddr Pg 73 v15 0) h22) fun v23 h24 =>
 bindV (aLoadV Pg h24 5 v23) fun v25 h26 =>
 bindV (still (aFieldAddr Pg 73 v17 0) h26) fun v27 h28 =>
 bindV (aLoadV Pg h28 5 v27) fun v29 h30 =>
 bindV (still (aBin Pg .neq 5 v25 v29 false) h30) fun v31 h32 =>
 vcG v31 false (
 bindV (still (aFieldAddr Pg 73 v15 1) h32) fun v96 h97 =>
 bindV (aLoadV Pg h97 3 v96) fun v98 h99 =>
 bindV (still (aFieldAddr Pg 73 v17 1) h99) fun v100 h101 =>
 bindV (aLoadV Pg h101 3 v100) fun v102 h103 =>
 bindV (still (aBin Pg .neq 3 v98 v102 false) h103) fun v104 h105 =>
 Meet (Gz1o Q n x0 x1 v15 v17 x15 x16 v31 v104 h105)) (Meet (Gz1o Q n x0 x1 v15 v17 x15 x16 v31 hole h32))))))))):=by kernel_rfl
theorem Jz5n_eq (Q:AEnd→AH→Prop) (h:AH):Jz5n Q h=(
 Q (.ret (V.bool true)) h):=by kernel_rfl
theorem Lz6d_eq (Q:AEnd→AH→Prop) (n:Nat) (x0 x1 x15 x16:V) (h:AH):Lz6d Q (n + 1) x0 x1 x15 x16 h=(
 bindV (still (aBin Pg .lss 3 x16 x15 false) h) fun v9 h10 =>
 vcIf v9 (
 Meet (Jz5h Q n x0 x1 x15 x16 h10)) (
 Meet (Jz5n Q h10))):=by kernel_rfl
theorem Jz5g_eq (Q:AEnd→AH→Prop) (x0 x1:V) (h:AH):Jz5g Q x0 x1 h=(
 bindV (aBuiltin Pg h .len [84] [x0]) fun v7 h8 =>
 ∃ n,Meet (Lz6d Q n x0 x1 v7 (V.int .i64 0) h8)):=by kernel_rfl
theorem S45 (Q:AEnd→AH→Prop) (a0 a1:V) (h:AH):vc Pg N45 B45 K45 (vcRet Pg R45 Q) (initEnv 0 [a0,a1]) h=(
 bindV (aBuiltin Pg h .len [84] [a0]) fun v1 h2 =>
 bindV (aBuiltin Pg h2 .len [84] [a1]) fun v3 h4 =>
 bindV (still (aBin Pg .neq 3 v1 v3 false) h4) fun v5 h6 =>
 vcIf v5 (
 Q (.ret (V.bool false)) h6) (
 Meet (Jz5g Q a0 a1 h6))):=by kernel_rfl
theorem C45 (Q:AEnd→AH→Prop) (a0 a1:V) (h:AH) (c :
 bindV (aBuiltin Pg h .len [84] [a0]) fun v1 h2 =>
 bindV (aBuiltin Pg h2 .len [84] [a1]) fun v3 h4 =>
 bindV (still (aBin Pg .neq 3 v1 v3 false) h4) fun v5 h6 =>
 vcIf v5 (
 Q (.ret (V.bool false)) h6) (
 Meet (Jz5g Q a0 a1 h6))):ACalls Pg 45 [a0,a1] h Q :=
 acalls_of_vc okP Tryz.func45 (show Tryz.f45.body=some B45 from by kernel_rfl) K45 (by rw [← S45 Q a0 a1 h] at c;exact c)
end Go.Proofs.YtcglbpjpbjaecaaGreat.Sh
namespace Go.Proofs.YtcglbpjpbjaecaaGreat.Sh
open Go Go.Ab Go.RowKit
open Go.Proofs.YtcglbpjpbjaecaaGreat.Ru (Pg okP)
open Go.Proofs.YtcglbpjpbjaecaaGreat.Sj (bp BldF)
set_option maxRecDepth 10000
theorem z73:zeroV Pg 73=some (.agg [(.int .u8 0),(.int .i64 0),(.int .i64 0),(.agg [(.int .u8 0),(.int .u64 0),(.int .u16 0),(.int .i64 0),(.str [])]),(.slc none 0)]):=by kernel_rfl
theorem zs73:hasShape Pg (.agg [(.int .u8 0),(.int .i64 0),(.int .i64 0),(.agg [(.int .u8 0),(.int .u64 0),(.int .u16 0),(.int .i64 0),(.str [])]),(.slc none 0)]) 73=true:=by kernel_rfl
section
variable (l:List Ev) (hl:l.length≤2000) (hok:∀ e∈l,e.ok) {v:V} {h0:AH} {x:V} (hsc:ScrB h0 x l)
include hl hok hsc
end
end Go.Proofs.YtcglbpjpbjaecaaGreat.Sh
namespace Go.Proofs.YtcglbpjpbjaecaaGreat.Sh
open Go Go.Ab Go.RowKit
open Go.Proofs.YtcglbpjpbjaecaaGreat.Ru (Pg okP)
set_option maxRecDepth 10000
section
variable (l:List Ev) (hl:l.length≤2000) (hok:∀ e∈l,e.ok) (hkl:∀ e∈l,e.keep.length≤300000) {v:V} {h:AH} {x:V} (hsc:ScrB h x l)
include hl hok hkl hsc
end
end Go.Proofs.YtcglbpjpbjaecaaGreat.Sh
namespace Go.Proofs.YtcglbpjpbjaecaaGreat.Sh
open Go Go.Ab Go.RowKit
open Go.Proofs.YtcglbpjpbjaecaaGreat.Ru (Pg okP)
set_option maxRecDepth 10000
def RowB (e:TypeId) (h:AH) (x:V) (xs:List V):Prop :=
 (x=.slc none 0∧xs=[])∨∃ n,n < h.next∧x=.slc (some (⟨n,.row e,[]⟩,0)) xs.length∧h.m n=some (.cells true (.row e) (.agg xs))
def Young (e b0:Nat) (x:V):Prop:=∀ k,k < b0→∀ len,x≠.slc (some (⟨k,.row e,[]⟩,0)) len
theorem RowB.app {e t xt:TypeId} {h:AH} {x y:V} {xs ws:List V} (b:RowB e h x xs) (hc:apOk Pg t xt e=true) (hy:aElems Pg h e y=some ws) (hw:ws≠[]) (hl:(xs.length + ws.length) * Pg.bytesOf e≤140737488355328) :
   ∃ v h',aBuiltin Pg h .append [t,xt] [x,y]=some (v,h')∧RowB e h' v (xs++ws)∧h'.next=h.next + 1∧(∀ k,k < h.next→(∀ len,x≠.slc (some (⟨k,.row e,[]⟩,0)) len)→h'.m k=h.m k)∧Young e h.next v:=by
 rcases b with ⟨rfl,rfl⟩ | ⟨n,h1,rfl,h3⟩
 · obtain ⟨h',e1,u⟩:=apN_at (n:=0) hc hy hw (by simpa using hl)
   refine ⟨_,h',e1,.inr ⟨h.next,by rw [u.next];omega,rfl,u.at_⟩,u.next,fun k hk _=>u.other k hk,fun k hk len q=>?_⟩
   simp only [V.slc.injEq,Option.some.injEq,Prod.mk.injEq,PA.mk.injEq] at q
   omega
 · obtain ⟨h',e1,u⟩:=apR_at (i:=0) (n:=xs.length) hc h1 h3 (by omega) hy hw hl
   refine ⟨_,h',e1,.inr ⟨h.next,by rw [u.next];omega,by rw [List.length_append],?_⟩,u.next,fun k hk hne=>u.other k hk (fun q=>by subst q;exact hne _ rfl),fun k hk len q=>?_⟩
   · rw [u.at_,List.drop_zero,List.take_of_length_le (by omega)]
   · simp only [V.slc.injEq,Option.some.injEq,Prod.mk.injEq,PA.mk.injEq] at q
     omega
theorem keepB_row {h:AH} {k:V} {l:List Bool} (b:RowB 4 h k (boolsV l)):KeepB h k l:=by
 rcases b with ⟨rfl,h2⟩ | ⟨n,h1,rfl,h3⟩
 · refine .inl ⟨rfl,?_⟩
   cases l with
   | nil=>rfl
   | cons a l=>cases h2
 · exact .inr ⟨n,h1,by rw [boolsV_len],h3⟩
theorem KeepB.keepT {h h':AH} {k:V} {l:List Bool} (b:KeepB h k l) (hn:h.next≤h'.next) (hk:∀ n xs,n < h.next→h.m n=some (.cells true (.row 4) xs)→h'.m n=h.m n):KeepB h' k l:=by
 rcases b with ⟨rfl,rfl⟩ | ⟨n,h1,rfl,h3⟩
 · exact .inl ⟨rfl,rfl⟩
 · exact .inr ⟨n,by omega,rfl,(hk n _ h1 h3).trans h3⟩
theorem EvsAt.keepT {h h':AH} {xs:List V} {l:List Ev} (b:EvsAt h xs l) (hn:h.next≤h'.next) (hk:∀ n xs,n < h.next→h.m n=some (.cells true (.row 4) xs)→h'.m n=h.m n):EvsAt h' xs l :=
 ⟨b.1,fun i e he=>let ⟨k,h1,h2⟩:=b.2 i e he;⟨k,h1,h2.keepT hn hk⟩⟩
theorem EvsAt.snoc {h:AH} {xs:List V} {l:List Ev} (b:EvsAt h xs l) {e:Ev} {k:V} (hk:KeepB h k e.keep):EvsAt h (xs++[evV e k]) (l++[e]):=by
 refine ⟨by simp [b.1],fun i e' he=>?_⟩
 rcases Nat.lt_or_ge i l.length with hi | hi
 · rw [List.getElem?_append_left hi] at he
   obtain ⟨k',q1,q2⟩:=b.2 i e' he
   exact ⟨k',by rw [List.getElem?_append_left (by rw [b.1];exact hi)];exact q1,q2⟩
 · have hi2:i=l.length:=by
     have:=(List.getElem?_eq_some_iff.1 he).1
     simp at this;omega
   subst hi2
   rw [List.getElem?_append_right (by omega)] at he
   simp at he
   subst he
   exact ⟨k,by rw [List.getElem?_append_right (by rw [b.1];omega),b.1];simp,hk⟩
theorem scrB_row {h:AH} {x:V} {xs:List V} {l:List Ev} (b:RowB 73 h x xs) (e:EvsAt h xs l):ScrB h x l:=by
 rcases b with ⟨rfl,rfl⟩ | ⟨n,h1,rfl,h3⟩
 · exact .inl ⟨rfl,List.length_eq_zero_iff.1 (by rw [← e.1];rfl)⟩
 · exact .inr ⟨n,xs,h1,by rw [e.1],h3,e⟩
def KeepA (h:AH) (k:V) (l:List Bool):Prop :=
 (k=.slc none 0∧l=[])∨∃ n own,n < h.next∧k=.slc (some (⟨n,.row 4,[]⟩,0)) l.length∧h.m n=some (.cells own (.row 4) (.agg (boolsV l)))
theorem KeepB.any {h:AH} {k:V} {l:List Bool} (b:KeepB h k l):KeepA h k l:=by
 rcases b with ⟨rfl,rfl⟩ | ⟨n,h1,rfl,h3⟩
 · exact .inl ⟨rfl,rfl⟩
 · exact .inr ⟨n,true,h1,rfl,h3⟩
theorem KeepA.shape {h:AH} {k:V} {l:List Bool} (b:KeepA h k l):∃ a,k=.slc a l.length:=by
 rcases b with ⟨rfl,rfl⟩ | ⟨n,_,_,rfl,_⟩ <;> exact ⟨_,rfl⟩
def ScrA (h:AH) (x:V) (l:List Ev):Prop :=
 (x=.slc none 0∧l=[])∨∃ n own xs,n < h.next∧x=.slc (some (⟨n,.row 73,[]⟩,0)) l.length∧h.m n=some (.cells own (.row 73) (.agg xs)) ∧
   xs.length=l.length∧∀ (i:Nat) (e:Ev),l[i]?=some e→∃ k,xs[i]?=some (evV e k)∧KeepA h k e.keep
theorem ScrB.any {h:AH} {x:V} {l:List Ev} (b:ScrB h x l):ScrA h x l:=by
 rcases b with ⟨rfl,rfl⟩ | ⟨n,xs,h1,rfl,h3,h4⟩
 · exact .inl ⟨rfl,rfl⟩
 · exact .inr ⟨n,true,xs,h1,rfl,h3,h4.1,fun i e he=>let ⟨k,q1,q2⟩:=h4.2 i e he;⟨k,q1,q2.any⟩⟩
theorem ScrA.shape {h:AH} {x:V} {l:List Ev} (b:ScrA h x l):∃ a,x=.slc a l.length:=by
 rcases b with ⟨rfl,rfl⟩ | ⟨n,_,_,_,rfl,_⟩ <;> exact ⟨_,rfl⟩
def Ev.cut (e:Ev):Ev:={ e with keep:=e.keep.take 2100 }
end Go.Proofs.YtcglbpjpbjaecaaGreat.Sh
namespace Go.Proofs.YtcglbpjpbjaecaaGreat.Sh
open Go Go.Ab Go.RowKit
open Go.Proofs.YtcglbpjpbjaecaaGreat.Ru (Pg okP)
set_option maxRecDepth 10000
def EventEnd (e:Ev) (s:List UInt8) (h0:AH):AEnd→AH→Prop:=fun ed h'=>∃ k,ed=.ret (.tup [evV e k,.bool (decide (e.fine∧e.txt=s))])∧KeepB h' k e.keep∧h0.next≤h'.next∧∀ n,n < h0.next→h'.m n=h0.m n
theorem fin112 (e:Ev) (ok:e.ok) (s:List UInt8) {h0 h:AH} {n2 n4:Nat} {k w:V} (hw:h.m n2=some (.cells true (.one 73) w)) (hm:h.m n4=some (.cells true (.one 73) (evV e k))) (hk:KeepB h k e.keep)
   (h2:h0.next≤n2∧n2 < h.next) (hkn:∀ l,h.m n2≠some (.cells true (.row 4) l)) (hn:h0.next≤h.next) (fr:∀ n,n < h0.next→h.m n=h0.m n) :
   Jz26 (EventEnd e s h0) (.str s) (.ptr (some ⟨n2,.one 73,[]⟩)) (.ptr (some ⟨n4,.one 73,[]⟩)) h:=by
 obtain ⟨a,rfl⟩:=hk.shape
 rw [Jz26_eq]
 refine bindV_mk (ld_mk (p:=[]) hm (by kernel_rfl) rfl) ?_
 refine callS (lineP e ok hk) ?_
 refine bindS_mk (show aExtract _ _=some _ from rfl) ?_
 refine bindS_mk (show aExtract _ _=some _ from rfl) ?_
 refine bindV_mk (ld_mk (p:=[]) hm (by kernel_rfl) rfl) ?_
 have shE:hasShape Pg (evV e (.slc a e.keep.length)) 73=true:=s73 e a _
 have fin:∀ b:V,b=.bool (decide (e.fine∧e.txt=s))→bindV (aStoreV Pg h 73 (.ptr (some ⟨n2,.one 73,[]⟩)) (evV e (.slc a e.keep.length))) (fun _ h186=>Meet (Jz27 (EventEnd e s h0) (.ptr (some ⟨n2,.one 73,[]⟩)) b h186)):=by
   intro b hb
   refine bindE (st_at (p:=[]) hw (by kernel_rfl) rfl shE (v':=evV e (.slc a e.keep.length)) rfl) fun h1 u1=>?_
   refine Meet.of (cast_p (Jz27_eq _ _ _ _) ?_)
   have e1:=ld_mk (P:=Pg) (t:=73) (p:=[]) u1.at_ (by kernel_rfl) (w:=evV e (.slc a e.keep.length)) rfl
   simp only [aLoadV] at e1
   have e2:=(still_some e1).1
   refine bindR_mk (show aRes Pg _ _ R112=some [evV e (.slc a e.keep.length),b] by simp only [R112,aRes,Env.get,if_true,e2];rfl) ?_
   subst hb
   refine ⟨_,rfl,hk.keepT (by rw [u1.next];omega) (fun n xs q1 q2=>u1.other n fun q=>hkn _ (q▸q2)),by rw [u1.next];exact hn,fun n q=>(u1.other n (by omega)).trans (fr n q)⟩
 by_cases hf:e.fine
 · rw [if_pos hf,decide_eq_true hf]
   refine g_tt ?_
   refine bindS_mk t_eql ?_
   refine Meet.of (cast_p (Gz1_eq _ _ _ _ _ _) ?_)
   refine bindV_mk p_t ?_
   refine fin _ ?_
   congr 1
   by_cases q:e.txt=s <;> simp [q,hf]
 · rw [decide_eq_false hf]
   refine g_ft ?_
   refine Meet.of (cast_p (Gz1_eq _ _ _ _ _ _) ?_)
   refine bindV_mk p_f ?_
   refine fin _ ?_
   congr 1
   simp [hf]
end Go.Proofs.YtcglbpjpbjaecaaGreat.Sh
namespace Go.Proofs.YtcglbpjpbjaecaaGreat.Sh
open Go Go.Ab Go.RowKit
open Go.Proofs.YtcglbpjpbjaecaaGreat.Ru (Pg okP)
open Go.Proofs.YtcglbpjpbjaecaaGreat.Sj (cutAt cutP cut_idx idxB)
set_option maxRecDepth 10000
set_option linter.unusedSectionVars false
structure CM (h0 h:AH) (n2 n4 nC:Nat) (c:Cs):Prop where
 m2:∃ w,h.m n2=some (.cells true (.one 73) w)
 m4:h.m n4=some (.cells true (.one 73) (evV c.e (.slc none 0)))
 mC:h.m nC=some (.cells true (.row 225) (.agg callV))
 o:h0.next≤n2∧n2 < n4∧n4 < nC∧nC < h.next
 fr:∀ n,n < h0.next→h.m n=h0.m n
theorem cv16 {h:AH} {n:Nat}:aConv Pg h 49 22 (.int .u64 (n:Int))=some (.int .u16 ((n % 65536:Nat):Int)):=by
 rw [cv_int (d:=22) .u16 (by kernel_rfl)]
 have:IntKind.u16.wrap (n:Int)=((n % 65536:Nat):Int):=by
   show (n:Int) % 65536=_
   omega
 rw [this]
section
variable {h0 h:AH} {p2 p4 pC pR m k:Nat} {c:Cs} {Q:AEnd→AH→Prop} {x0 x9 x72 x73 x74:V}
theorem off112 (hc:CM h0 h p2 p4 pC c) (hr:c.rest.length≤200000) (hR:h.m pR=some (.cells true (.one 225) (rowV k))) (o13:pC < pR∧pR < h.next) (hk8:k < 8) (cont:∀ c' h',c'=(if fOff k then c.off else c)→CM h0 h' p2 p4 pC c'→Jz22 Q m x0 (.ptr (some ⟨p2,.one 73,[]⟩)) (.ptr (some ⟨p4,.one 73,[]⟩)) (.str c'.rest) x9 x72 x73 x74 h'):Jz21 Q m x0 (.ptr (some ⟨p2,.one 73,[]⟩)) (.ptr (some ⟨p4,.one 73,[]⟩)) (.str c.rest) x9 (.ptr (some ⟨pR,.one 225,[]⟩)) x72 x73 x74 h:=by
 obtain ⟨⟨w2,m2⟩,m4,mC,⟨o1,o2,o3,o4⟩,fr⟩:=hc
 have l1:=cutAt_len 32 c.rest
 have b1:(readT (cutAt 32 c.rest).1).1 < 10000000000:=rdN_lt _
 rw [Jz21_eq]
 refine bindS_mk (fa_mk (by kernel_rfl)) ?_
 refine bindV_mk (ld_mk hR (by kernel_rfl) rfl) ?_
 refine i_split (fun q=>?_) (fun q=>?_)
 ·
   replace q:fOff k=true:=q
   refine callS (wordP _ (by omega) _) ?_
   refine bindS_mk (show aExtract _ _=some _ from rfl) ?_
   refine bindS_mk (show aExtract _ _=some _ from rfl) ?_
   refine callS (readP _ _) ?_
   refine bindS_mk (show aExtract _ _=some _ from rfl) ?_
   refine bindS_mk (show aExtract _ _=some _ from rfl) ?_
   refine bindS_mk (cv_wr (d:=3) (k:=.i64) (by kernel_rfl) (wrap_i64 (by omega) (by omega))) ?_
   refine bindS_mk (fa_mk (by kernel_rfl)) ?_
   refine bindS_mk (fa_mk (by kernel_rfl)) ?_
   refine bindE (st_at m4 (by kernel_rfl) rfl (by kernel_rfl) rfl) fun h1 u1=>?_
   have n1:=u1.next
   have fW_1:=(u1.other _ (by omega)).trans m2
   have fX_1:=u1.at_
   have fC_1:=(u1.other _ (by omega)).trans mC
   have fR_1:=(u1.other _ (by omega)).trans hR
   have fF_1:=fun k (hk:k < h0.next)=>(u1.other k (by omega)).trans (fr k hk)
   refine callS (backP _ _) ?_
   refine bindS_mk (show aExtract _ _=some _ from rfl) ?_
   refine bindS_mk (show aExtract _ _=some _ from rfl) ?_
   refine bindS_mk (fa_mk (by kernel_rfl)) ?_
   refine bindS_mk (fa_mk (by kernel_rfl)) ?_
   refine bindE (st_at fX_1 (by kernel_rfl) rfl (by kernel_rfl) rfl) fun h2 u2=>?_
   have n2:=u2.next
   have fW_2:=(u2.other _ (by omega)).trans fW_1
   have fX_2:=u2.at_
   have fC_2:=(u2.other _ (by omega)).trans fC_1
   have fR_2:=(u2.other _ (by omega)).trans fR_1
   have fF_2:=fun k (hk:k < h0.next)=>(u2.other k (by omega)).trans (fF_1 k hk)
   exact Meet.of (cont c.off _ (if_pos q).symm ⟨⟨_,fW_2⟩,fX_2,fC_2,⟨by omega,by omega,by omega,by omega⟩,fF_2⟩)
 ·
   replace q:fOff k=false:=q
   exact Meet.of (cont c _ (if_neg (by rw [q];decide)).symm ⟨⟨_,m2⟩,m4,mC,⟨by omega,by omega,by omega,by omega⟩,fr⟩)
theorem page112 (hc:CM h0 h p2 p4 pC c) (hr:c.rest.length≤200000) (hR:h.m pR=some (.cells true (.one 225) (rowV k))) (o13:pC < pR∧pR < h.next) (hk8:k < 8) (cont:∀ c' h',c'=(let d:=if fPage k then c.page else c;if fOff k then d.off else d)→CM h0 h' p2 p4 pC c'→Jz22 Q m x0 (.ptr (some ⟨p2,.one 73,[]⟩)) (.ptr (some ⟨p4,.one 73,[]⟩)) (.str c'.rest) x9 x72 x73 x74 h'):Jz20 Q m x0 (.ptr (some ⟨p2,.one 73,[]⟩)) (.ptr (some ⟨p4,.one 73,[]⟩)) (.str c.rest) x9 (.ptr (some ⟨pR,.one 225,[]⟩)) x72 x73 x74 h:=by
 obtain ⟨⟨w2,m2⟩,m4,mC,⟨o1,o2,o3,o4⟩,fr⟩:=hc
 have l1:=cutAt_len 32 c.rest
 have b1:(readT (cutAt 32 c.rest).1).1 < 10000000000:=rdN_lt _
 rw [Jz20_eq]
 refine bindS_mk (fa_mk (by kernel_rfl)) ?_
 refine bindV_mk (ld_mk hR (by kernel_rfl) rfl) ?_
 refine i_split (fun q=>?_) (fun q=>?_)
 ·
   replace q:fPage k=true:=q
   refine callS (wordP _ (by omega) _) ?_
   refine bindS_mk (show aExtract _ _=some _ from rfl) ?_
   refine bindS_mk (show aExtract _ _=some _ from rfl) ?_
   refine callS (readP _ _) ?_
   refine bindS_mk (show aExtract _ _=some _ from rfl) ?_
   refine bindS_mk (show aExtract _ _=some _ from rfl) ?_
   refine bindS_mk (cv16) ?_
   refine bindS_mk (fa_mk (by kernel_rfl)) ?_
   refine bindS_mk (fa_mk (by kernel_rfl)) ?_
   refine bindE (st_at m4 (by kernel_rfl) rfl (by kernel_rfl) rfl) fun h1 u1=>?_
   have n1:=u1.next
   have fW_1:=(u1.other _ (by omega)).trans m2
   have fX_1:=u1.at_
   have fC_1:=(u1.other _ (by omega)).trans mC
   have fR_1:=(u1.other _ (by omega)).trans hR
   have fF_1:=fun k (hk:k < h0.next)=>(u1.other k (by omega)).trans (fr k hk)
   exact Meet.of (off112 (c:=c.page) ⟨⟨_,fW_1⟩,fX_1,fC_1,⟨by omega,by omega,by omega,by omega⟩,fF_1⟩ (by show (cutAt 32 c.rest).2.1.length≤_;omega) fR_1 (by omega) hk8 fun c' h' he hh=>cont c' h' (by rw [he];simp only [q,if_true,Bool.false_eq_true,if_false]) hh)
 ·
   replace q:fPage k=false:=q
   exact Meet.of (off112 (c:=c) ⟨⟨_,m2⟩,m4,mC,⟨by omega,by omega,by omega,by omega⟩,fr⟩ (hr) hR (by omega) hk8 fun c' h' he hh=>cont c' h' (by rw [he];simp only [q,if_true,Bool.false_eq_true,if_false]) hh)
theorem txn112 (hc:CM h0 h p2 p4 pC c) (hr:c.rest.length≤200000) (hR:h.m pR=some (.cells true (.one 225) (rowV k))) (o13:pC < pR∧pR < h.next) (hk8:k < 8) (cont:∀ c' h',c'=callStep k c→CM h0 h' p2 p4 pC c'→Jz22 Q m x0 (.ptr (some ⟨p2,.one 73,[]⟩)) (.ptr (some ⟨p4,.one 73,[]⟩)) (.str c'.rest) x9 x72 x73 x74 h'):Jz1z Q m x0 (.ptr (some ⟨p2,.one 73,[]⟩)) (.ptr (some ⟨p4,.one 73,[]⟩)) (.str c.rest) x9 (.int .i64 k) (.ptr (some ⟨pR,.one 225,[]⟩)) x72 x73 x74 h:=by
 obtain ⟨⟨w2,m2⟩,m4,mC,⟨o1,o2,o3,o4⟩,fr⟩:=hc
 have l1:=cutAt_len 32 c.rest
 have b1:(readT (cutAt 32 c.rest).1).1 < 10000000000:=rdN_lt _
 rw [Jz1z_eq]
 refine bindS_mk (cv_wr (d:=5) (k:=.u8) (by kernel_rfl) (wr_u8 (by omega) (by omega))) ?_
 refine bindS_mk (fa_mk (by kernel_rfl)) ?_
 refine bindS_mk (fa_mk (by kernel_rfl)) ?_
 refine bindE (st_at m4 (by kernel_rfl) rfl (by kernel_rfl) rfl) fun h1 u1=>?_
 have n1:=u1.next
 have fW_1:=(u1.other _ (by omega)).trans m2
 have fX_1:=u1.at_
 have fC_1:=(u1.other _ (by omega)).trans mC
 have fR_1:=(u1.other _ (by omega)).trans hR
 have fF_1:=fun k (hk:k < h0.next)=>(u1.other k (by omega)).trans (fr k hk)
 refine bindS_mk (fa_mk (by kernel_rfl)) ?_
 refine bindV_mk (ld_mk fR_1 (by kernel_rfl) rfl) ?_
 refine i_split (fun q=>?_) (fun q=>?_)
 ·
   replace q:fTxn k=true:=q
   refine callS (wordP _ (by omega) _) ?_
   refine bindS_mk (show aExtract _ _=some _ from rfl) ?_
   refine bindS_mk (show aExtract _ _=some _ from rfl) ?_
   refine callS (readP _ _) ?_
   refine bindS_mk (show aExtract _ _=some _ from rfl) ?_
   refine bindS_mk (show aExtract _ _=some _ from rfl) ?_
   refine bindS_mk (fa_mk (by kernel_rfl)) ?_
   refine bindS_mk (fa_mk (by kernel_rfl)) ?_
   refine bindE (st_at fX_1 (by kernel_rfl) rfl (by kernel_rfl) rfl) fun h2 u2=>?_
   have n2:=u2.next
   have fW_2:=(u2.other _ (by omega)).trans fW_1
   have fX_2:=u2.at_
   have fC_2:=(u2.other _ (by omega)).trans fC_1
   have fR_2:=(u2.other _ (by omega)).trans fR_1
   have fF_2:=fun k (hk:k < h0.next)=>(u2.other k (by omega)).trans (fF_1 k hk)
   exact Meet.of (page112 (c:=(⟨{ c.e with ck:=k },c.rest⟩:Cs).txn) ⟨⟨_,fW_2⟩,fX_2,fC_2,⟨by omega,by omega,by omega,by omega⟩,fF_2⟩ (by show (cutAt 32 c.rest).2.1.length≤_;omega) fR_2 (by omega) hk8 fun c' h' he hh=>cont c' h' (by rw [he];unfold callStep;simp only [q,if_true]) hh)
 ·
   replace q:fTxn k=false:=q
   exact Meet.of (page112 (c:=(⟨{ c.e with ck:=k },c.rest⟩:Cs)) ⟨⟨_,fW_1⟩,fX_1,fC_1,⟨by omega,by omega,by omega,by omega⟩,fF_1⟩ (hr) fR_1 (by omega) hk8 fun c' h' he hh=>cont c' h' (by rw [he];unfold callStep;simp only [q,Bool.false_eq_true,if_false]) hh)
end
end Go.Proofs.YtcglbpjpbjaecaaGreat.Sh
namespace Go.Proofs.YtcglbpjpbjaecaaGreat.Sh
open Go Go.Ab Go.RowKit
open Go.Proofs.YtcglbpjpbjaecaaGreat.Ru (Pg okP)
open Go.Proofs.YtcglbpjpbjaecaaGreat.Sj (cutAt cutP cut_idx idxB)
set_option maxRecDepth 10000
set_option linter.unusedSectionVars false
theorem nze225:zeroV Pg 225=some (.agg [.str [],.bool false,.bool false,.bool false,.bool false]):=by kernel_rfl
theorem nzs225:hasShape Pg (.agg [.str [],.bool false,.bool false,.bool false,.bool false]) 225=true:=by kernel_rfl
theorem sr225 (k:Nat):hasShape Pg (rowV k) 225=true:=by kernel_rfl
section
variable {h0 h:AH} {p2 p4 pC pR m k:Nat} {c:Cs} {Q:AEnd→AH→Prop} {x0:V} {name:List UInt8}
theorem top112 (hc:CM h0 h p2 p4 pC c) (hr:c.rest.length≤200000) (hk:k < 8) (cont:∀ c' h',c'=(if nameOf k=name then callStep k c else c)→CM h0 h' p2 p4 pC c'→Lz5r Q m x0 (.ptr (some ⟨p2,.one 73,[]⟩)) (.ptr (some ⟨p4,.one 73,[]⟩)) (.str c'.rest) (.str name) (.slc (some (⟨pC,.row 225,[]⟩,0)) 8) (.int .i64 8) (.int .i64 ((k + 1:Nat):Int)) h'):Jz1y Q m x0 (.ptr (some ⟨p2,.one 73,[]⟩)) (.ptr (some ⟨p4,.one 73,[]⟩)) (.str c.rest) (.str name) (.slc (some (⟨pC,.row 225,[]⟩,0)) 8) (.int .i64 8) (.int .i64 k) h:=by
 replace cont:∀ c' h',c'=(if nameOf k=name then callStep k c else c)→CM h0 h' p2 p4 pC c'→Jz22 Q m x0 (.ptr (some ⟨p2,.one 73,[]⟩)) (.ptr (some ⟨p4,.one 73,[]⟩)) (.str c'.rest) (.str name) (.slc (some (⟨pC,.row 225,[]⟩,0)) 8) (.int .i64 8) (.int .i64 k) h':=fun c' h' he hh=>by
   rw [Jz22_eq]
   refine bindS_mk (w_add (wrap_i64 (by omega) (by omega))) ?_
   exact Meet.of (cont c' h' he hh)
 obtain ⟨⟨w2,m2⟩,m4,mC,⟨o1,o2,o3,o4⟩,fr⟩:=hc
 rw [Jz1y_eq]
 refine bindS_mk (ia_slc _ (by kernel_rfl) (by omega) (by omega)) ?_
 refine bindV_mk (ld_mk mC (by kernel_rfl) (getRow hk)) ?_
 refine bindE (al_at nze225 nzs225) fun h1 u1=>?_
 have n1:=u1.next
 have fW_1:=(u1.other _ (by omega)).trans m2
 have fX_1:=(u1.other _ (by omega)).trans m4
 have fC_1:=(u1.other _ (by omega)).trans mC
 have fF_1:=fun k (hk:k < h0.next)=>(u1.other k (by omega)).trans (fr k hk)
 have f1_1:=u1.at_
 refine bindE (st_at f1_1 (by kernel_rfl) rfl (sr225 k) rfl) fun h2 u2=>?_
 have n2:=u2.next
 have fW_2:=(u2.other _ (by omega)).trans fW_1
 have fX_2:=(u2.other _ (by omega)).trans fX_1
 have fC_2:=(u2.other _ (by omega)).trans fC_1
 have fF_2:=fun k (hk:k < h0.next)=>(u2.other k (by omega)).trans (fF_1 k hk)
 have f1_2:=u2.at_
 refine bindS_mk (fa_mk (by kernel_rfl)) ?_
 refine bindV_mk (ld_mk f1_2 (by kernel_rfl) rfl) ?_
 refine bindS_mk (t_neq) ?_
 refine i_split (fun c3=>?_) (fun c3=>?_)
 · try rw [c3]
   have q:¬ nameOf k=name:=fun q=>by subst q;simp at c3
   exact Meet.of (cont c _ (if_neg q).symm ⟨⟨_,fW_2⟩,fX_2,fC_2,⟨by omega,by omega,by omega,by omega⟩,fF_2⟩)
 · try rw [c3]
   have q:nameOf k=name:=by simpa using c3
   exact Meet.of (txn112 ⟨⟨_,fW_2⟩,fX_2,fC_2,⟨by omega,by omega,by omega,by omega⟩,fF_2⟩ hr f1_2 (by omega) hk fun c' h' he hh=>cont c' h' (by rw [if_pos q];exact he) hh)
theorem callsL:∀ (j i m:Nat) (c:Cs) (h:AH),i + j=8→j < m→c.ok→CM h0 h p2 p4 pC c→(∀ c' h',c'=callL name j i c→CM h0 h' p2 p4 pC c'→Jz26 Q x0 (.ptr (some ⟨p2,.one 73,[]⟩)) (.ptr (some ⟨p4,.one 73,[]⟩)) h')→Lz5r Q m x0 (.ptr (some ⟨p2,.one 73,[]⟩)) (.ptr (some ⟨p4,.one 73,[]⟩)) (.str c.rest) (.str name) (.slc (some (⟨pC,.row 225,[]⟩,0)) 8) (.int .i64 8) (.int .i64 i) h
 | j,i,0,c,h,hij,hm,_,_,_=>by omega
 | 0,i,m + 1,c,h,hij,hm,ok,hc,cont=>by
   obtain rfl:i=8:=by omega
   rw [Lz5r_eq]
   refine bindS_mk b_lss ?_
   refine i_split (fun q=>?_) (fun q=>?_)
   · replace q:=of_decide_eq_true q
     exfalso;omega
   · exact Meet.of (cont c h rfl hc)
 | j + 1,i,m + 1,c,h,hij,hm,ok,hc,cont=>by
   rw [Lz5r_eq]
   refine bindS_mk b_lss ?_
   refine i_split (fun q=>?_) (fun q=>?_)
   · refine Meet.of (top112 hc ok.rest (by omega) fun c' h' he hh=>?_)
     refine callsL j (i + 1) m c' h' (by omega) (by omega) ?_ hh fun c2 h2 he2 hh2=>cont c2 h2 (by rw [he2,he];rfl) hh2
     rw [he]
     split
     · exact callStep_ok (by omega) ok
     · exact ok
   · replace q:=of_decide_eq_false q
     exfalso;omega
end
end Go.Proofs.YtcglbpjpbjaecaaGreat.Sh
namespace Go.Proofs.YtcglbpjpbjaecaaGreat.Sh
open Go Go.Ab Go.RowKit
open Go.Proofs.YtcglbpjpbjaecaaGreat.Ru (Pg okP)
set_option maxRecDepth 10000
theorem ap71:apOk Pg 71 71 4=true:=by kernel_rfl
theorem ap84:apOk Pg 84 84 73=true:=by kernel_rfl
theorem by4:Pg.bytesOf 4=1:=by kernel_rfl
theorem by73:Pg.bytesOf 73≤1000:=by decide +kernel
section
variable (l:List Ev) {h0:AH} {x:V} (hsc:ScrA h0 x l)
include hsc
omit hsc in
theorem take_succ' {α:Type} {s:List α} {i:Nat} {b:α} (h:s[i]?=some b):s.take (i + 1)=s.take i++[b]:=by
 rw [List.take_add_one,h];rfl
end
end Go.Proofs.YtcglbpjpbjaecaaGreat.Sh
namespace Go.Proofs.YtcglbpjpbjaecaaGreat.Sh
open Go Go.Ab Go.RowKit
open Go.Proofs.YtcglbpjpbjaecaaGreat.Ru (Pg okP)
open Go.Proofs.YtcglbpjpbjaecaaGreat.Sj (cutAt cutP cut_idx idxB)
set_option maxRecDepth 10000
set_option linter.unusedSectionVars false
def e5:Ev:={ ev0 with kind:=5 }
structure BM (h0 h:AH) (p2 p4:Nat) (k:V) (l:List Bool):Prop where
 m2:∃ w,h.m p2=some (.cells true (.one 73) w)
 m4:h.m p4=some (.cells true (.one 73) (evV e5 k))
 row:RowB 4 h k (boolsV l)
 y:Young 4 h0.next k
 o:h0.next≤p2∧p2 < p4∧p4 < h.next
 fr:∀ n,n < h0.next→h.m n=h0.m n
theorem row_ne {h:AH} {e t n:Nat} {k w:V} {xs:List V} {own:Bool} (b:RowB e h k xs) (hn:h.m n=some (.cells own (.one t) w)):∀ len,k≠.slc (some (⟨n,.row e,[]⟩,0)) len:=fun len q=>by
 rcases b with ⟨rfl,_⟩ | ⟨n',g1,rfl,g3⟩
 · cases q
 · simp only [V.slc.injEq,Option.some.injEq,Prod.mk.injEq,PA.mk.injEq] at q
   rw [q.1.1.1,hn] at g3;cases g3
theorem row_sh {h:AH} {e:Nat} {k:V} {xs:List V} (b:RowB e h k xs):∃ a n,k=.slc a n:=by
 rcases b with ⟨rfl,_⟩ | ⟨n',g1,rfl,g3⟩ <;> exact ⟨_,_,rfl⟩
theorem eq49 (b:UInt8):(((b.toNat:Nat):Int) == 49)=(b == 49):=by
 by_cases h:b=49
 · subst h;rfl
 · have h2:¬ ((b.toNat:Nat):Int)=49:=fun q=>h (UInt8.toNat_inj.1 (by show b.toNat=49;omega))
   rw [beq_eq_false_iff_ne.2 h,beq_eq_false_iff_ne.2 h2]
section
variable {h0:AH} {p2 p4:Nat} {Q:AEnd→AH→Prop} {x0:V} {rest:List UInt8}
theorem bool112 {h:AH} {k:V} {i m:Nat} (hi:i < rest.length) (hr:rest.length≤200000) (b:BM h0 h p2 p4 k ((rest.take i).map fun b=>b == 49))
   (cont:∀ k' h',BM h0 h' p2 p4 k' ((rest.take (i + 1)).map fun b=>b == 49)→Lz5s Q m x0 (.ptr (some ⟨p2,.one 73,[]⟩)) (.ptr (some ⟨p4,.one 73,[]⟩)) (.str rest) (.int .i64 ((i + 1:Nat):Int)) h') :
   Jz24 Q m x0 (.ptr (some ⟨p2,.one 73,[]⟩)) (.ptr (some ⟨p4,.one 73,[]⟩)) (.str rest) (.int .i64 i) h:=by
 obtain ⟨⟨w2,m2⟩,m4,row,y,⟨o1,o2,o3⟩,fr⟩:=b
 obtain ⟨b,hb⟩:∃ b,rest[i]?=some b:=⟨rest[i]'hi,List.getElem?_eq_getElem hi⟩
 rw [Jz24_eq]
 refine bindSO_mk (fa_mk (by kernel_rfl)) ?_
 refine bindVO_mk (ld_mk m4 (by kernel_rfl) rfl) ?_
 refine bindSO_mk (ixS (b:=b) (by kernel_rfl) (by omega) (by rw [show ((i:Nat):Int).toNat=i by omega];exact hb)) ?_
 refine bindSO_mk b_eql ?_
 rw [eq49]
 refine bindE (bs1_at (e:=4) (by kernel_rfl) (show zeroV Pg 4=some (.bool false) by kernel_rfl) (show hasShape Pg (.bool (b == 49)) 4=true by kernel_rfl)) fun h1 u1=>?_
 have n1:=u1.next
 have m41:=(u1.other _ (by omega)).trans m4
 have m21:=(u1.other _ (by omega)).trans m2
 have fr1:∀ n,n < h0.next→h1.m n=h0.m n:=fun n q=>(u1.other _ (by omega)).trans (fr n q)
 refine ⟨ld_mk m41 (by kernel_rfl) rfl,?_⟩
 have row1:RowB 4 h1 k (boolsV ((rest.take i).map fun b=>b == 49)):=by
   rcases row with ⟨rfl,q⟩ | ⟨n,q1,rfl,q3⟩
   · exact .inl ⟨rfl,q⟩
   · exact .inr ⟨n,by omega,rfl,(u1.other n q1).trans q3⟩
 obtain ⟨k',h2,e2,row2,n2,f2,y2⟩:=row1.app ap71 (elems_row (by exact u1.at_)) (by simp) (by rw [by4,boolsV_len];simp;omega)
 refine bindV_mk e2 ?_
 refine bindSO_mk (fa_mk (by kernel_rfl)) ?_
 have m42:=(f2 p4 (by omega) (row_ne row1 m41)).trans m41
 have m22:=(f2 p2 (by omega) (row_ne row1 m21)).trans m21
 obtain ⟨a',l',rfl⟩:=row_sh row2
 refine bindE (st_at m42 (by kernel_rfl) rfl (show hasShape Pg (.slc a' l') 71=true by kernel_rfl) (v':=evV e5 (.slc a' l')) rfl) fun h3 u3=>?_
 have n3:=u3.next
 refine Meet.of (cast_p (Jz25_eq _ _ _ _ _ _ _ _) ?_)
 refine bindS_mk (w_add (wrap_i64 (by omega) (by omega))) ?_
 refine Meet.of (cont _ h3 ⟨⟨w2,(u3.other _ (by omega)).trans m22⟩,u3.at_,?_,?_,⟨o1,o2,by omega⟩,fun n q=>(u3.other n (by omega)).trans ((f2 n (by omega) (y n q)).trans (fr1 n q))⟩)
 · rw [take_succ' hb,List.map_append]
   have:boolsV ((rest.take i).map (fun b=>b == 49)++[b].map fun b=>b == 49)=boolsV ((rest.take i).map fun b=>b == 49)++[.bool (b == 49)]:=by simp [boolsV]
   rw [this]
   rcases row2 with ⟨q1,q2⟩ | ⟨n,q1,q2,q3⟩
   · simp at q2
   · refine .inr ⟨n,by omega,q2,(u3.other n fun q=>?_).trans q3⟩
     rw [q,m42] at q3;cases q3
 · exact fun n q len=>y2 n (by omega) len
theorem boolsL (hne:rest≠[45]) (hr:rest.length≤200000):∀ (j i m:Nat) (k:V) (h:AH),i + j=rest.length→j < m→BM h0 h p2 p4 k ((rest.take i).map fun b=>b == 49) →
   (∀ k' h',BM h0 h' p2 p4 k' (rest.map fun b=>b == 49)→Jz26 Q x0 (.ptr (some ⟨p2,.one 73,[]⟩)) (.ptr (some ⟨p4,.one 73,[]⟩)) h')→Lz5s Q m x0 (.ptr (some ⟨p2,.one 73,[]⟩)) (.ptr (some ⟨p4,.one 73,[]⟩)) (.str rest) (.int .i64 i) h
 | j,i,0,k,h,hij,hm,_,_=>by omega
 | 0,i,m + 1,k,h,hij,hm,b,cont=>by
   obtain rfl:i=rest.length:=by omega
   rw [List.take_length] at b
   rw [Lz5s_eq]
   refine bindV_mk (len_str (by kernel_rfl)) ?_
   refine bindS_mk b_lss ?_
   rw [decide_eq_false (by omega)]
   refine g_ft ?_
   refine Meet.of (cast_p (Gz0_eq _ _ _ _ _ _ _ _ _ _) ?_)
   refine bindV_mk p_f ?_
   refine Meet.of (cast_p (Jz23_eq _ _ _ _ _ _ _ _ _) ?_)
   refine i_f ?_
   exact Meet.of (cont k h b)
 | j + 1,i,m + 1,k,h,hij,hm,b,cont=>by
   rw [Lz5s_eq]
   refine bindV_mk (len_str (by kernel_rfl)) ?_
   refine bindS_mk b_lss ?_
   rw [decide_eq_true (by omega)]
   refine g_tt ?_
   refine bindS_mk t_neq ?_
   rw [beq_eq_false_iff_ne.2 hne]
   refine Meet.of (cast_p (Gz0_eq _ _ _ _ _ _ _ _ _ _) ?_)
   refine bindV_mk p_t ?_
   refine Meet.of (cast_p (Jz23_eq _ _ _ _ _ _ _ _ _) ?_)
   refine i_t ?_
   exact Meet.of (bool112 (by omega) hr b fun k' h' b'=>boolsL hne hr j (i + 1) m k' h' (by omega) (by omega) b' cont)
theorem bools0 {m:Nat} {h:AH} (c:Jz26 Q x0 (.ptr (some ⟨p2,.one 73,[]⟩)) (.ptr (some ⟨p4,.one 73,[]⟩)) h):Lz5s Q (m + 1) x0 (.ptr (some ⟨p2,.one 73,[]⟩)) (.ptr (some ⟨p4,.one 73,[]⟩)) (.str [45]) (.int .i64 0) h:=by
 rw [Lz5s_eq]
 refine bindV_mk (len_str (by kernel_rfl)) ?_
 refine bindS_mk b_lss ?_
 rw [decide_eq_true (by decide)]
 refine g_tt ?_
 refine bindS_mk t_neq ?_
 rw [show (([45]:List UInt8) == [45])=true from rfl]
 refine Meet.of (cast_p (Gz0_eq _ _ _ _ _ _ _ _ _ _) ?_)
 refine bindV_mk p_t ?_
 refine Meet.of (cast_p (Jz23_eq _ _ _ _ _ _ _ _ _) ?_)
 refine i_f ?_
 exact Meet.of c
end
end Go.Proofs.YtcglbpjpbjaecaaGreat.Sh
namespace Go.Proofs.YtcglbpjpbjaecaaGreat.Sh
open Go Go.Ab Go.RowKit
open Go.Proofs.YtcglbpjpbjaecaaGreat.Ru (Pg okP)
open Go.Proofs.YtcglbpjpbjaecaaGreat.Sj (cutAt cutP cut_idx idxB)
set_option maxRecDepth 10000
set_option linter.unusedSectionVars false
theorem callStep_keep (k:Nat) (c:Cs):(callStep k c).e.keep=c.e.keep:=by
 unfold callStep
 simp only []
 split <;> split <;> split <;> rfl
theorem callL_keep (name:List UInt8):∀ (j i:Nat) (c:Cs),(callL name j i c).e.keep=c.e.keep
 | 0,i,c=>rfl
 | j + 1,i,c=>by
   unfold callL
   rw [callL_keep name j (i + 1) _]
   split
   · exact callStep_keep i c
   · rfl
theorem evT0 {s:List UInt8} (h:kindIx (cutAt 32 s).1=0):evT s=(callL (cutAt 32 (cutAt 32 (cutAt 32 s).2.1).2.1).1 8 0 ⟨{ ev0 with a:=rdN (cutAt 32 (cutAt 32 s).2.1).1 },(cutAt 32 (cutAt 32 (cutAt 32 s).2.1).2.1).2.1⟩).e:=by
 unfold evT
 simp only []
 rw [if_pos h]
theorem evT5 {s:List UInt8} (h:kindIx (cutAt 32 s).1=5):evT s={ ev0 with kind:=5,keep:=if (cutAt 32 s).2.1=[45] then [] else (cutAt 32 s).2.1.map fun b=>b == 49 }:=by
 unfold evT
 simp only []
 rw [if_neg (by omega),if_pos h]
theorem evTn {s:List UInt8} (h:kindIx (cutAt 32 s).1≠0) (h5:kindIx (cutAt 32 s).1≠5):evT s={ ev0 with kind:=kindIx (cutAt 32 s).1,a:=rdN (cutAt 32 s).2.1 }:=by
 unfold evT
 simp only []
 rw [if_neg h,if_neg h5]
theorem kindDrop {i:Nat} (h:i < 7):kindNames.drop i=kindName i :: kindNames.drop (i + 1):=by
 match i,h with
 | 0,_=>rfl
 | 1,_=>rfl
 | 2,_=>rfl
 | 3,_=>rfl
 | 4,_=>rfl
 | 5,_=>rfl
 | 6,_=>rfl
section
variable {h0 h:AH} {p2 p4 pE m:Nat} {s:List UInt8}
theorem end112 (hs:s.length≤200000) {k:V} (hw:∃ w,h.m p2=some (.cells true (.one 73) w)) (hm:h.m p4=some (.cells true (.one 73) (evV (evT s) k))) (hk:KeepB h k (evT s).keep) (o:h0.next≤p2∧p2 < h.next) (fr:∀ n,n < h0.next→h.m n=h0.m n) :
   Jz26 (EventEnd (evT s) s h0) (.str s) (.ptr (some ⟨p2,.one 73,[]⟩)) (.ptr (some ⟨p4,.one 73,[]⟩)) h:=by
 obtain ⟨w,hw⟩:=hw
 exact fin112 (evT s) (evT_ok s hs) s hw hm hk o (fun l q=>by rw [hw] at q;cases q) (by omega) fr
theorem kind112 (hs:s.length≤200000) {kd:Nat} (hkd:kindIx (cutAt 32 s).1=kd) (m2:∃ w,h.m p2=some (.cells true (.one 73) w)) (m4:h.m p4=some (.cells true (.one 73) (evV { ev0 with kind:=kd } (.slc none 0)))) (o:h0.next≤p2∧p2 < p4∧p4 < h.next) (fr:∀ n,n < h0.next→h.m n=h0.m n) :
   Jz1x (EventEnd (evT s) s h0) (.str s) (.ptr (some ⟨p2,.one 73,[]⟩)) (.ptr (some ⟨p4,.one 73,[]⟩)) (.str (cutAt 32 s).2.1) h:=by
 have l1:=cutAt_len 32 s
 have l2:=cutAt_len 32 (cutAt 32 s).2.1
 have l3:=cutAt_len 32 (cutAt 32 (cutAt 32 s).2.1).2.1
 have b1:(readT (cutAt 32 (cutAt 32 s).2.1).1).1 < 10000000000:=rdN_lt _
 have b1':rdN (cutAt 32 (cutAt 32 s).2.1).1 < 10000000000:=rdN_lt _
 have b2:(readT (cutAt 32 s).2.1).1 < 10000000000:=rdN_lt _
 have b3:=kindIx_lt (cutAt 32 s).1
 rw [hkd] at b3
 replace m4:h.m p4=some (.cells true (.one 73) (.agg [.int .u8 kd,.int .i64 0,.int .i64 0,.agg [.int .u8 0,.int .u64 0,.int .u16 0,.int .i64 0,.str []],.slc none 0])):=m4
 obtain ⟨o1,o2,o3⟩:=o
 obtain ⟨w2,m2⟩:=m2
 rw [Jz1x_eq]
 refine bindS_mk (fa_mk (by kernel_rfl)) ?_
 refine bindV_mk (ld_mk m4 (by kernel_rfl) rfl) ?_
 refine bindS_mk (b_eql) ?_
 refine i_split (fun c1=>?_) (fun c1=>?_)
 · try rw [c1]
   replace c1:=eq_of_beq c1
   refine callS (wordP _ (by omega) _) ?_
   refine bindS_mk (show aExtract _ _=some _ from rfl) ?_
   refine bindS_mk (show aExtract _ _=some _ from rfl) ?_
   refine callS (readP _ _) ?_
   refine bindS_mk (show aExtract _ _=some _ from rfl) ?_
   refine bindS_mk (show aExtract _ _=some _ from rfl) ?_
   refine bindS_mk (cv_wr (d:=3) (k:=.i64) (by kernel_rfl) (wrap_i64 (by omega) (by omega))) ?_
   refine bindS_mk (fa_mk (by kernel_rfl)) ?_
   refine bindE (st_at m4 (by kernel_rfl) rfl (by kernel_rfl) rfl) fun h2 u2=>?_
   have n2:=u2.next
   have fW_2:=(u2.other _ (by omega)).trans m2
   have fX_2:=u2.at_
   have fF_2:=fun k (hk:k < h0.next)=>(u2.other k (by omega)).trans (fr k hk)
   refine callS (wordP _ (by omega) _) ?_
   refine bindS_mk (show aExtract _ _=some _ from rfl) ?_
   refine bindS_mk (show aExtract _ _=some _ from rfl) ?_
   refine callQ (callsP _) fun h3 u3=>?_
   have n3:=u3.next
   have fW_3:=(u3.other _ (by omega)).trans fW_2
   have fX_3:=(u3.other _ (by omega)).trans fX_2
   have fF_3:=fun k (hk:k < h0.next)=>(u3.other k (by omega)).trans (fF_2 k hk)
   have fC_3:=u3.at_
   refine bindV_mk (len_slc (by kernel_rfl)) ?_
   obtain rfl:kd=0:=by omega
   have hc:CM h0 _ p2 p4 _ ⟨{ ev0 with a:=rdN (cutAt 32 (cutAt 32 s).2.1).1 },(cutAt 32 (cutAt 32 (cutAt 32 s).2.1).2.1).2.1⟩:=⟨⟨_,fW_3⟩,fX_3,fC_3,⟨by omega,by omega,by omega,by omega⟩,fF_3⟩
   have hok:Cs.ok ⟨{ ev0 with a:=rdN (cutAt 32 (cutAt 32 s).2.1).1 },(cutAt 32 (cutAt 32 (cutAt 32 s).2.1).2.1).2.1⟩:=by
     refine ⟨⟨ev0_ok.kind,?_,ev0_ok.b,ev0_ok.ck,ev0_ok.txn,ev0_ok.page,ev0_ok.off,ev0_ok.s,ev0_ok.keep⟩,by show (cutAt 32 _).2.1.length≤_;omega⟩
     show _≤((rdN _:Nat):Int)∧((rdN _:Nat):Int) < _
     omega
   have key:=fun k=>callsL (Q:=EventEnd (evT s) s h0) (x0:=.str s) (name:=(cutAt 32 (cutAt 32 (cutAt 32 s).2.1).2.1).1) 8 0 9 _ _ (by omega) (by omega) hok hc k
   refine ⟨9,Meet.of (key fun c' h' he hh=>?_)⟩
   obtain ⟨m2',m4',mC',⟨q1,q2,q3,q4⟩,fr'⟩:=hh
   have e1:c'.e=evT s:=by rw [he,evT0 hkd]
   have e2:c'.e.keep=[]:=by rw [he,callL_keep];rfl
   rw [e1] at m4' e2
   exact end112 hs m2' m4' (.inl ⟨rfl,e2⟩) (by omega) fr'
 · try rw [c1]
   replace c1:=ne_of_beq_false c1
   refine bindS_mk (b_eql) ?_
   refine i_split (fun c4=>?_) (fun c4=>?_)
   · try rw [c4]
     replace c4:=eq_of_beq c4
     obtain rfl:kd=5:=by omega
     by_cases hd:(cutAt 32 s).2.1=[45]
     · have e1:=evT5 hkd
       rw [if_pos hd] at e1
       rw [hd]
       refine ⟨1,Meet.of (bools0 (end112 hs (k:=.slc none 0) ⟨_,m2⟩ ?_ (.inl ⟨rfl,by rw [e1]⟩) (by omega) fr))⟩
       rw [e1];exact m4
     · have e1:=evT5 hkd
       rw [if_neg hd] at e1
       refine ⟨_,Meet.of (boolsL hd (by omega) (cutAt 32 s).2.1.length 0 ((cutAt 32 s).2.1.length + 1) (.slc none 0) _ (by omega) (by omega) ⟨⟨_,m2⟩,m4,.inl ⟨rfl,rfl⟩,(fun k _ len q=>by cases q),⟨by omega,by omega,by omega⟩,fr⟩ fun k' h' b=>?_)⟩
       have hkb:=keepB_row b.row
       refine end112 hs (k:=k') b.m2 ?_ (by rw [e1];exact hkb) (by have:=b.o;omega) b.fr
       rw [e1];exact b.m4
   · try rw [c4]
     replace c4:=ne_of_beq_false c4
     refine callS (readP _ _) ?_
     refine bindS_mk (show aExtract _ _=some _ from rfl) ?_
     refine bindS_mk (show aExtract _ _=some _ from rfl) ?_
     refine bindS_mk (cv_wr (d:=3) (k:=.i64) (by kernel_rfl) (wrap_i64 (by omega) (by omega))) ?_
     refine bindS_mk (fa_mk (by kernel_rfl)) ?_
     refine bindE (st_at m4 (by kernel_rfl) rfl (by kernel_rfl) rfl) fun h5 u5=>?_
     have n5:=u5.next
     have fW_5:=(u5.other _ (by omega)).trans m2
     have fX_5:=u5.at_
     have fF_5:=fun k (hk:k < h0.next)=>(u5.other k (by omega)).trans (fr k hk)
     have e1:=evTn (s:=s) (by omega) (by omega)
     refine Meet.of (end112 hs (k:=.slc none 0) ⟨_,fW_5⟩ ?_ (.inl ⟨rfl,by rw [e1];rfl⟩) (by omega) fF_5)
     rw [e1,hkd];exact fX_5
theorem kstep {Q:AEnd→AH→Prop} {x0:V} {w rest:List UInt8} {i kd:Nat} (hi:i < 7) (m2:∃ w,h.m p2=some (.cells true (.one 73) w)) (m4:h.m p4=some (.cells true (.one 73) (evV { ev0 with kind:=kd } (.slc none 0)))) (mE:h.m pE=some (.cells true (.row 9) (.agg (kindNames.map V.str)))) (o:h0.next≤p2∧p2 < p4∧p4 < pE∧pE < h.next) (fr:∀ n,n < h0.next→h.m n=h0.m n)
   (cont:∀ kd' h',kd'=(if kindName i=w then i else kd)→(∃ w,h'.m p2=some (.cells true (.one 73) w))→(h'.m p4=some (.cells true (.one 73) (evV { ev0 with kind:=kd' } (.slc none 0))))→(h'.m pE=some (.cells true (.row 9) (.agg (kindNames.map V.str))))→(h0.next≤p2∧p2 < p4∧p4 < pE∧pE < h'.next)→(∀ n,n < h0.next→h'.m n=h0.m n)→Lz5q Q m x0 (.ptr (some ⟨p2,.one 73,[]⟩)) (.ptr (some ⟨p4,.one 73,[]⟩)) (.str w) (.str rest) (.slc (some (⟨pE,.row 9,[]⟩,0)) 7) (.int .i64 7) (.int .i64 ((i + 1:Nat):Int)) h'):Jz1v Q m x0 (.ptr (some ⟨p2,.one 73,[]⟩)) (.ptr (some ⟨p4,.one 73,[]⟩)) (.str w) (.str rest) (.slc (some (⟨pE,.row 9,[]⟩,0)) 7) (.int .i64 7) (.int .i64 i) h:=by
 obtain ⟨o1,o2,o3,o4⟩:=o
 obtain ⟨w2,m2⟩:=m2
 rw [Jz1v_eq]
 refine bindS_mk (ia_slc _ (by kernel_rfl) (by omega) (by omega)) ?_
 refine bindV_mk (ld_mk mE (by kernel_rfl) (getKind hi)) ?_
 refine bindS_mk (t_eql) ?_
 refine i_split (fun c1=>?_) (fun c1=>?_)
 · try rw [c1]
   have q:kindName i=w:=eq_of_beq c1
   refine bindS_mk (cv_wr (d:=5) (k:=.u8) (by kernel_rfl) (wr_u8 (by omega) (by omega))) ?_
   refine bindS_mk (fa_mk (by kernel_rfl)) ?_
   refine bindE (st_at m4 (by kernel_rfl) rfl (by kernel_rfl) rfl) fun h2 u2=>?_
   have n2:=u2.next
   have fW_2:=(u2.other _ (by omega)).trans m2
   have fX_2:=u2.at_
   have fF_2:=fun k (hk:k < h0.next)=>(u2.other k (by omega)).trans (fr k hk)
   have fE_2:=(u2.other _ (by omega)).trans mE
   refine Meet.of (cast_p (Jz1w_eq _ _ _ _ _ _ _ _ _ _ _) ?_)
   first | refine bindS_mk (w_add (by first | exact wrap_i64 (by omega) (by omega) | exact wr_u8 (by omega) (by omega) | exact wr_u16 (by omega) (by omega) | exact wr_u32 (by omega) (by omega) | exact wr_u64 (by omega) (by omega))) ?_ | refine bindS_mk (b_add) ?_
   exact Meet.of (cont i _ (if_pos q).symm ⟨_,fW_2⟩ fX_2 fE_2 (by omega) fF_2)
 · try rw [c1]
   have q:¬ kindName i=w:=ne_of_beq_false c1
   refine Meet.of (cast_p (Jz1w_eq _ _ _ _ _ _ _ _ _ _ _) ?_)
   first | refine bindS_mk (w_add (by first | exact wrap_i64 (by omega) (by omega) | exact wr_u8 (by omega) (by omega) | exact wr_u16 (by omega) (by omega) | exact wr_u32 (by omega) (by omega) | exact wr_u64 (by omega) (by omega))) ?_ | refine bindS_mk (b_add) ?_
   exact Meet.of (cont kd _ (if_neg q).symm ⟨_,m2⟩ m4 mE (by omega) fr)
theorem kindsL {Q:AEnd→AH→Prop} {x0:V} {w rest:List UInt8}:∀ (j i kd m:Nat) (h:AH),i + j=7→j < m→(∃ w,h.m p2=some (.cells true (.one 73) w))→(h.m p4=some (.cells true (.one 73) (evV { ev0 with kind:=kd } (.slc none 0))))→(h.m pE=some (.cells true (.row 9) (.agg (kindNames.map V.str))))→(h0.next≤p2∧p2 < p4∧p4 < pE∧pE < h.next)→(∀ n,n < h0.next→h.m n=h0.m n)→(∀ h',(∃ w,h'.m p2=some (.cells true (.one 73) w))→(h'.m p4=some (.cells true (.one 73) (evV { ev0 with kind:=(kindL w (kindNames.drop i) i kd) } (.slc none 0))))→(h'.m pE=some (.cells true (.row 9) (.agg (kindNames.map V.str))))→(h0.next≤p2∧p2 < p4∧p4 < pE∧pE < h'.next)→(∀ n,n < h0.next→h'.m n=h0.m n)→Jz1x Q x0 (.ptr (some ⟨p2,.one 73,[]⟩)) (.ptr (some ⟨p4,.one 73,[]⟩)) (.str rest) h')→Lz5q Q m x0 (.ptr (some ⟨p2,.one 73,[]⟩)) (.ptr (some ⟨p4,.one 73,[]⟩)) (.str w) (.str rest) (.slc (some (⟨pE,.row 9,[]⟩,0)) 7) (.int .i64 7) (.int .i64 i) h
 | j,i,kd,0,h,hij,hm,_,_,_,_,_,_=>by omega
 | 0,i,kd,m + 1,h,hij,hm,m2,m4,mE,o,fr,cont=>by
   obtain rfl:i=7:=by omega
   rw [Lz5q_eq]
   refine bindS_mk b_lss ?_
   rw [decide_eq_false (by omega)]
   refine i_f ?_
   exact Meet.of (cont h m2 m4 mE o fr)
 | j + 1,i,kd,m + 1,h,hij,hm,m2,m4,mE,o,fr,cont=>by
   rw [Lz5q_eq]
   refine bindS_mk b_lss ?_
   rw [decide_eq_true (by omega)]
   refine i_t ?_
   have hd:=kindDrop (i:=i) (by omega)
   refine Meet.of (kstep (by omega) m2 m4 mE o fr fun kd' h' he m2' m4' mE' o' fr'=>?_)
   refine kindsL j (i + 1) kd' m h' (by omega) (by omega) m2' m4' mE' o' fr' fun h2 a b c d e=>cont h2 a ?_ c d e
   rw [hd,kindL,← he];exact b
theorem eventP (s:List UInt8) (hs:s.length≤200000) (h0:AH):ACalls Pg 112 [.str s] h0 (EventEnd (evT s) s h0):=by
 refine C112 _ _ _ ?_
 refine bindE (al_at z73 zs73) fun h1 u1=>?_
 have n1:=u1.next
 have fF_1:=fun k (hk:k < h0.next)=>(u1.other k (by omega)).trans ((fun n (_:n < h0.next)=>rfl) k hk)
 have f1_1:=u1.at_
 refine bindE (al_at z73 zs73) fun h2 u2=>?_
 have n2:=u2.next
 have fF_2:=fun k (hk:k < h0.next)=>(u2.other k (by omega)).trans (fF_1 k hk)
 have f1_2:=(u2.other _ (by omega)).trans f1_1
 have f2_2:=u2.at_
 refine callS (wordP _ (by omega) _) ?_
 refine bindS_mk (show aExtract _ _=some _ from rfl) ?_
 refine bindS_mk (show aExtract _ _=some _ from rfl) ?_
 refine callQ (eventsP _) fun h3 u3=>?_
 have n3:=u3.next
 have fF_3:=fun k (hk:k < h0.next)=>(u3.other k (by omega)).trans (fF_2 k hk)
 have f1_3:=(u3.other _ (by omega)).trans f1_2
 have f2_3:=(u3.other _ (by omega)).trans f2_2
 have fE_3:=u3.at_
 refine bindV_mk (len_slc (by kernel_rfl)) ?_
 refine ⟨8,Meet.of (kindsL 7 0 0 8 _ (by omega) (by omega) ⟨_,f1_3⟩ f2_3 fE_3 ⟨by omega,by omega,by omega,by omega⟩ fF_3 fun h' a b c d e=>?_)⟩
 exact kind112 hs rfl a b ⟨by omega,by omega,by omega⟩ e
end
end Go.Proofs.YtcglbpjpbjaecaaGreat.Sh
namespace Go.Proofs.YtcglbpjpbjaecaaGreat.Sh
open Go Go.Ab Go.RowKit
open Go.Proofs.YtcglbpjpbjaecaaGreat.Ru (Pg okP)
open Go.Proofs.YtcglbpjpbjaecaaGreat.Sj (cutAt cutP cut_idx idxB)
set_option maxRecDepth 10000
theorem cutAt_mk (c:UInt8):∀ (a b:List UInt8),c ∉ a→cutAt c (a++c :: b)=(a,b,true)
 | [],b,_=>by simp [cutAt]
 | x :: a,b,h=>by
   have h1:x≠c:=fun e=>h (by simp [e])
   have h2:=cutAt_mk c a b (fun q=>h (List.mem_cons_of_mem _ q))
   simp [cutAt,h1,h2]
theorem cutAt_none (c:UInt8):∀ (a:List UInt8),c ∉ a→cutAt c a=(a,[],false)
 | [],_=>rfl
 | x :: a,h=>by
   have h1:x≠c:=fun e=>h (by simp [e])
   have h2:=cutAt_none c a (fun q=>h (List.mem_cons_of_mem _ q))
   simp [cutAt,h1,h2]
theorem dig_toNat {d:Nat} (h:d < 10):(UInt8.ofNat (48 + d)).toNat=48 + d:=by
 simp;omega
theorem dec_dig:∀ (k n:Nat),n≤k→∀ b∈dec n,48≤b.toNat∧b.toNat≤57
 | k,n,hk,b,hb=>by
   by_cases h:n < 10
   · rw [dec_lt h] at hb
     simp only [List.mem_singleton] at hb
     subst hb
     rw [dig_toNat h];omega
   · rw [dec_ge h] at hb
     rcases List.mem_append.1 hb with q | q
     · match k with
       | 0=>omega
       | k + 1=>exact dec_dig k (n / 10) (by omega) b q
     · simp only [List.mem_singleton] at q
       subst q
       rw [dig_toNat (by omega)];omega
theorem dec_no (n:Nat) (c:UInt8) (hc:c.toNat < 48∨57 < c.toNat):c ∉ dec n:=fun q=>by
 have:=dec_dig n n (Nat.le_refl _) c q
 omega
theorem rdL_dec:∀ (k m:Nat) (t:List UInt8),m≤k→rdL 0 (dec m++t)=rdL m t
 | k,m,t,hk=>by
   by_cases h:m < 10
   · rw [dec_lt h]
     simp only [List.cons_append,List.nil_append]
     rw [rdL,dig_toNat h,if_neg (by omega)]
     congr 1;omega
   · rw [dec_ge h,List.append_assoc]
     match k with
     | 0=>omega
     | k + 1 =>
       rw [rdL_dec k (m / 10) _ (by omega)]
       simp only [List.cons_append,List.nil_append]
       rw [rdL,dig_toNat (by omega),if_neg (by omega)]
       congr 1;omega
theorem dec_ne (n:Nat):dec n≠[]:=by
 by_cases h:n < 10
 · rw [dec_lt h];simp
 · rw [dec_ge h];simp
theorem dec_head:∀ (k m:Nat),m≤k→1≤m→(dec m).head?≠some 48
 | k,m,hk,h1=>by
   by_cases h:m < 10
   · rw [dec_lt h]
     simp only [List.head?_cons,ne_eq,Option.some.injEq]
     intro e
     have:=congrArg UInt8.toNat e
     rw [dig_toNat h] at this
     have h48:(48:UInt8).toNat=48:=rfl
     omega
   · rw [dec_ge h]
     match k with
     | 0=>omega
     | k + 1 =>
       have:=dec_head k (m / 10) (by omega) (by omega)
       have hne:=dec_ne (m / 10)
       cases hd:dec (m / 10) with
       | nil=>exact absurd hd hne
       | cons x l=>rw [hd] at this;simpa using this
theorem readT_dec {m:Nat} (h:m < 2147483648):readT (dec m)=(m,true):=by
 unfold readT
 rw [if_neg,← List.append_nil (dec m),rdL_dec m m [] (Nat.le_refl _),rdL,decide_eq_true h]
 have h1:=dec_len 9 m (by omega)
 have h2:(dec m).length≠0:=fun e=>dec_ne m (List.length_eq_zero_iff.1 e)
 rintro (q | q | ⟨q1,q2⟩)
 · exact h2 q
 · omega
 · by_cases hm:m < 10
   · rw [dec_lt hm] at q1;simp at q1
   · exact dec_head m m (Nat.le_refl _) (by omega) q2
theorem ix16_hx {d:Nat} (h:d < 16):ix16 (hx d)=d:=by
 have:∀ y:Fin 16,ix16 (hx y.val)=(y.val:Int):=by decide +kernel
 exact this ⟨d,h⟩
theorem bkL_hex:∀ (s out:List UInt8),bkL (hexL s) out=(out++s,true)
 | [],out=>by simp [hexL,bkL]
 | b :: s,out=>by
   have e:hexL (b :: s)=hx (b.toNat / 16) :: hx (b.toNat % 16) :: hexL s:=by simp [hexL,hx2]
   have hb:b.toNat < 256:=UInt8.toNat_lt b
   rw [e,bkL,ix16_hx (by omega),ix16_hx (by omega),if_neg (by omega)]
   have e2:UInt8.ofNat (((b.toNat / 16:Nat):Int) * 16 + ((b.toNat % 16:Nat):Int)).toNat=b:=by
     have:(((b.toNat / 16:Nat):Int) * 16 + ((b.toNat % 16:Nat):Int)).toNat=b.toNat:=by omega
     rw [this];simp
   rw [e2,bkL_hex s];simp
theorem backT_hex {s:List UInt8} (h:s.length≤64):backT (hexS s)=(s,true):=by
 unfold hexS
 cases s with
 | nil=>simp [backT]
 | cons b s =>
   have hl:=hexL_len (b :: s)
   simp only [List.length_cons] at hl h
   simp only [List.isEmpty_cons]
   unfold backT
   rw [if_neg (fun e=>by rw [show (if false=true then [45] else hexL (b :: s))=hexL (b :: s) from rfl] at e;rw [e] at hl;simp at hl;omega),show (if false=true then [(45:UInt8)] else hexL (b :: s))=hexL (b :: s) from rfl,if_neg (by omega),bkL_hex];rfl
theorem kindIx_at {k:Nat} (h:k < 7):kindIx (kindName k)=k:=by
 have:∀ y:Fin 7,kindIx (kindName y.val)=y.val:=by decide +kernel
 exact this ⟨k,h⟩
theorem kind_no {k:Nat} (h:k < 7):(32:UInt8) ∉ kindName k:=by
 have:∀ y:Fin 7,(32:UInt8) ∉ kindName y.val:=by decide +kernel
 exact this ⟨k,h⟩
theorem name_no {k:Nat} (h:k < 8):(32:UInt8) ∉ nameOf k:=by
 have:∀ y:Fin 8,(32:UInt8) ∉ nameOf y.val:=by decide +kernel
 exact this ⟨k,h⟩
theorem callL_at {k:Nat} (h:k < 8) (c:Cs):callL (nameOf k) 8 0 c=callStep k c:=by
 match k,h with
 | 0,_=>rfl
 | 1,_=>rfl
 | 2,_=>rfl
 | 3,_=>rfl
 | 4,_=>rfl
 | 5,_=>rfl
 | 6,_=>rfl
 | 7,_=>rfl
theorem bits_back:∀ l:List Bool,(bitsT l).map (fun b=>b == 49)=l
 | []=>rfl
 | b :: l=>by
   have:=bits_back l
   simp only [bitsT,List.map_cons,List.map_map] at this ⊢
   rw [this]
   cases b <;> rfl
theorem bits_dash (l:List Bool):bitsT l≠[45]:=by
 match l with
 | []=>simp [bitsT]
 | b :: l=>cases b <;> simp [bitsT]
theorem bits_no (l:List Bool):(32:UInt8) ∉ bitsT l:=by
 simp only [bitsT,List.mem_map,not_exists,not_and]
 intro b _
 cases b <;> decide
theorem rdN_dec {m:Nat} (h:m < 2147483648):rdN (dec m)=m:=by rw [rdN,readT_dec h]
theorem no32 (n:Nat):(32:UInt8) ∉ dec n:=dec_no n 32 (.inl (by decide))
theorem evT_txt (e:Ev) (hp:e.page < 65536) (h:e.fine):evT e.txt=e:=by
 obtain ⟨h1,h2,h3,h4,h5,h6,h7,h8⟩:=h
 obtain ⟨kind,a,b,ck,txn,page,off,s,keep⟩:=e
 simp only at h1 h2 h3 h4 h5 h6 h7 h8 hp
 subst h4
 obtain ⟨a,rfl⟩:=Int.eq_ofNat_of_zero_le h2
 by_cases k0:kind=0
 · subst k0
   obtain ⟨g1,g2,g3,g4,g5,g6,g7,g8,g9⟩:=h7 rfl
   have k1:keep=[]:=List.length_eq_zero_iff.1 (h6 (by omega))
   subst k1
   obtain ⟨off,rfl⟩:=Int.eq_ofNat_of_zero_le g4
   unfold Ev.txt
   rw [if_pos rfl]
   simp only [Int.toNat_natCast]
   generalize ht:((if fTxn ck then 32 :: dec txn else [])++((if fPage ck then 32 :: dec page else [])++(if fOff ck then 32 :: (dec off++32 :: hexS s) else [])))=tail
   unfold evT
   rw [cutAt_mk 32 [97,115,107] _ (by decide)]
   simp only []
   rw [show kindIx [97,115,107]=0 by decide +kernel,if_pos rfl,cutAt_mk 32 (dec a) _ (no32 a)]
   simp only []
   rw [rdN_dec (by omega)]
   have nm:=name_no g2
   have fin:∀ t,cutAt 32 (nameOf ck++tail)=(nameOf ck,t)→(callStep ck ⟨{ ev0 with a:=(a:Int) },t.1⟩).e={ kind:=0,a:=a,b:=0,ck:=ck,txn:=txn,page:=page,off:=off,s:=s,keep:=[] }→(callL (cutAt 32 (nameOf ck++tail)).1 8 0 ⟨{ ev0 with a:=(a:Int) },(cutAt 32 (nameOf ck++tail)).2.1⟩).e={ kind:=0,a:=a,b:=0,ck:=ck,txn:=txn,page:=page,off:=off,s:=s,keep:=[] }:=by
     intro t q1 q2
     rw [q1,callL_at g2];exact q2
   by_cases c2:ck=2
   · subst c2
     have e1:tail=32 :: (dec txn++32 :: (dec page++32 :: (dec off++32 :: hexS s))):=by rw [← ht];simp [fTxn,fPage,fOff]
     rw [e1] at fin ⊢
     refine fin _ (cutAt_mk 32 _ _ nm) ?_
     simp only [callStep,show fTxn 2=true from rfl,show fPage 2=true from rfl,show fOff 2=true from rfl,if_true,Cs.txn,Cs.page,Cs.off]
     rw [cutAt_mk 32 _ _ (no32 txn)]
     simp only []
     rw [cutAt_mk 32 _ _ (no32 page)]
     simp only []
     rw [cutAt_mk 32 _ _ (no32 off)]
     simp only []
     rw [backT_hex g6,rdN_dec g3,rdN_dec (by omega),rdN_dec (by omega),Nat.mod_eq_of_lt hp]
     rfl
   · obtain ⟨o0,s0⟩:=g9 c2
     have o0:off=0:=by omega
     have s0:s=[]:=List.length_eq_zero_iff.1 s0
     subst o0 s0
     by_cases c1:ck=1
     · subst c1
       have e1:tail=32 :: (dec txn++32 :: dec page):=by rw [← ht];simp [fTxn,fPage,fOff]
       rw [e1] at fin ⊢
       refine fin _ (cutAt_mk 32 _ _ nm) ?_
       simp only [callStep,show fTxn 1=true from rfl,show fPage 1=true from rfl,show fOff 1=false from rfl,if_true,Bool.false_eq_true,if_false,Cs.txn,Cs.page]
       rw [cutAt_mk 32 _ _ (no32 txn)]
       simp only []
       rw [cutAt_none 32 _ (no32 page)]
       simp only []
       rw [rdN_dec g3,rdN_dec (by omega),Nat.mod_eq_of_lt hp]
       rfl
     · have p0:page=0:=g8 (by omega)
       subst p0
       by_cases c3:1≤ck∧ck≤4
       · have f1:fTxn ck=true:=decide_eq_true c3
         have f2:fPage ck=false:=decide_eq_false (by omega)
         have f3:fOff ck=false:=decide_eq_false (by omega)
         have e1:tail=32 :: dec txn:=by rw [← ht,f1,f2,f3];simp
         rw [e1] at fin ⊢
         refine fin _ (cutAt_mk 32 _ _ nm) ?_
         simp only [callStep,f1,f2,f3,if_true,Bool.false_eq_true,if_false,Cs.txn]
         rw [cutAt_none 32 _ (no32 txn)]
         simp only []
         rw [rdN_dec g3]
         rfl
       · have t0:txn=0:=g7 c3
         subst t0
         have f1:fTxn ck=false:=decide_eq_false c3
         have f2:fPage ck=false:=decide_eq_false (by omega)
         have f3:fOff ck=false:=decide_eq_false (by omega)
         have e1:tail=[]:=by rw [← ht,f1,f2,f3];simp
         rw [e1] at fin ⊢
         refine fin _ (by rw [List.append_nil];exact cutAt_none 32 _ nm) ?_
         simp only [callStep,f1,f2,f3,Bool.false_eq_true,if_false]
         rfl
 · obtain ⟨r1,r2,r3,r4,r5⟩:=h5 k0
   have s0:s=[]:=List.length_eq_zero_iff.1 r5
   subst r1 r2 r3 r4 s0
   by_cases k5:kind=5
   · subst k5
     obtain ⟨a0,kl⟩:=h8 rfl
     rw [a0]
     have key:∀ r,r=(if keep.length=0 then [45] else bitsT keep)→evT ([99,114,97,115,104]++32 :: r)={ kind:=5,a:=0,b:=0,ck:=0,txn:=0,page:=0,off:=0,s:=[],keep:=keep }:=by
       intro r hr
       unfold evT
       rw [cutAt_mk 32 [99,114,97,115,104] _ (by decide)]
       simp only []
       rw [show kindIx [99,114,97,115,104]=5 by decide +kernel,if_neg (by decide),if_pos rfl]
       by_cases hk:keep.length=0
       · rw [if_pos hk] at hr
         rw [if_pos hr,List.length_eq_zero_iff.1 hk];rfl
       · rw [if_neg hk] at hr
         rw [hr,if_neg (bits_dash keep),bits_back];rfl
     exact key _ rfl
   · have k0':keep=[]:=List.length_eq_zero_iff.1 (h6 k5)
     subst k0'
     unfold Ev.txt
     rw [if_neg k0,if_neg k5]
     unfold evT
     rw [cutAt_mk 32 _ _ (kind_no h1)]
     simp only []
     rw [kindIx_at h1,if_neg k0,if_neg k5]
     simp only [Int.toNat_natCast]
     rw [rdN_dec (by omega)]
     rfl
end Go.Proofs.YtcglbpjpbjaecaaGreat.Sh
namespace Go.Proofs.YtcglbpjpbjaecaaGreat.Sh
open Go Go.Ab Go.RowKit
open Go.Proofs.YtcglbpjpbjaecaaGreat.Ru (Pg okP)
open Go.Proofs.YtcglbpjpbjaecaaGreat.Sj (cutAt cutP cut_idx idxB)
set_option maxRecDepth 10000
def wdsL:List UInt8→List UInt8→List (List UInt8)
 | w,[]=>[w]
 | w,c :: s=>if c=32 then w :: wdsL [] s else wdsL (w++[c]) s
def wdsT (s:List UInt8):List (List UInt8):=wdsL [] s
def valL:Nat→Int→List UInt8→Int
 | 0,n,_=>n
 | _ + 1,n,[]=>n
 | k + 1,n,c :: s=>valL k (n * 10 + (c.toNat:Int) - 48) s
def valT (l:List (List UInt8)) (i:Nat):Int:=valL 12 0 (l.getD i [])
def letN (c:UInt8):Nat:=((if 97≤c.toNat then c.toNat - 39 else c.toNat) + 208) % 256
def letB (a b:UInt8):UInt8:=UInt8.ofNat ((letN a * 16 + letN b) % 256)
def bysL:List UInt8→List UInt8
 | a :: b :: s=>letB a b :: bysL s
 | _=>[]
def bytT (l:List (List UInt8)) (i:Nat):List UInt8:=if l.getD i []=[45]∨128 < (l.getD i []).length then [] else bysL (l.getD i [])
def ckT (l:List (List UInt8)):Nat:=if 2 < l.length then kindL (l.getD 2 []) names 0 99 else 99
def evR (s:List UInt8):Ev :=
 let l:=wdsT s
 let k:=kindL (l.getD 0 []) kindNames 0 99
 if k=0 then
   ⟨0,valT l 1,0,ckT l,if 1≤ckT l∧ckT l≤4 then (valT l 3 % 18446744073709551616).toNat else 0,if ckT l=1∨ckT l=2 then (valT l 4 % 65536).toNat else 0,if ckT l=2 then valT l 5 else 0,if ckT l=2 then bytT l 6 else [],[]⟩
 else if k=5 then { ev0 with kind:=5,keep:=if 1 < l.length∧l.getD 1 []≠[45] then (l.getD 1 []).map (fun b=>b == 49) else [] }
 else { ev0 with kind:=k,a:=valT l 1 }
theorem wdsL_mk:∀ (a w b:List UInt8),(32:UInt8) ∉ a→wdsL w (a++32 :: b)=(w++a) :: wdsT b
 | [],w,b,_=>by simp [wdsL,wdsT]
 | x :: a,w,b,h=>by
   have h1:x≠32:=fun e=>h (by simp [e])
   have h2:=wdsL_mk a (w++[x]) b (fun q=>h (List.mem_cons_of_mem _ q))
   simp only [List.cons_append,wdsL,h1,if_false]
   rw [h2];simp
theorem wdsL_end:∀ (a w:List UInt8),(32:UInt8) ∉ a→wdsL w a=[w++a]
 | [],w,_=>by simp [wdsL]
 | x :: a,w,h=>by
   have h1:x≠32:=fun e=>h (by simp [e])
   have h2:=wdsL_end a (w++[x]) (fun q=>h (List.mem_cons_of_mem _ q))
   simp only [wdsL,h1,if_false]
   rw [h2];simp
theorem wds_mk {a b:List UInt8} (h:(32:UInt8) ∉ a):wdsT (a++32 :: b)=a :: wdsT b:=wdsL_mk a [] b h
theorem wds_end {a:List UInt8} (h:(32:UInt8) ∉ a):wdsT a=[a]:=wdsL_end a [] h
theorem valL_dec:∀ (k m j:Nat) (t:List UInt8),m≤k→valL ((dec m).length + j) 0 (dec m++t)=valL j m t
 | k,m,j,t,hk=>by
   by_cases h:m < 10
   · rw [dec_lt h]
     simp only [List.cons_append,List.nil_append,List.length_cons,List.length_nil]
     rw [show 0 + 1 + j=j + 1 by omega,valL,dig_toNat h]
     congr 1;omega
   · rw [dec_ge h,List.append_assoc]
     match k with
     | 0=>omega
     | k + 1 =>
       rw [List.length_append,Nat.add_assoc,valL_dec k (m / 10) _ _ (by omega)]
       simp only [List.cons_append,List.nil_append,List.length_cons,List.length_nil]
       rw [show 0 + 1 + j=j + 1 by omega,valL,dig_toNat (by omega)]
       congr 1;omega
theorem valL_end (j:Nat) (n:Int):valL j n []=n:=by cases j <;> rfl
theorem valL_at {m:Nat} (h:m < 2147483648):valL 12 0 (dec m)=m:=by
 have h1:=dec_len 9 m (by omega)
 have:=valL_dec m m (12 - (dec m).length) [] (Nat.le_refl _)
 rw [List.append_nil,show (dec m).length + (12 - (dec m).length)=12 by omega,valL_end] at this
 exact this
theorem letN_hx {d:Nat} (h:d < 16):letN (hx d)=d:=by
 have:∀ y:Fin 16,letN (hx y.val)=y.val:=by decide +kernel
 exact this ⟨d,h⟩
theorem bys_hex:∀ s:List UInt8,bysL (hexL s)=s
 | []=>rfl
 | b :: s=>by
   have e:hexL (b :: s)=hx (b.toNat / 16) :: hx (b.toNat % 16) :: hexL s:=by simp [hexL,hx2]
   have hb:b.toNat < 256:=UInt8.toNat_lt b
   rw [e,bysL,bys_hex s,letB,letN_hx (by omega),letN_hx (by omega),show (b.toNat / 16 * 16 + b.toNat % 16) % 256=b.toNat by omega]
   simp
theorem bytes_hex {s:List UInt8} (h:s.length≤64):(if hexS s=[45]∨128 < (hexS s).length then [] else bysL (hexS s))=s:=by
 unfold hexS
 cases s with
 | nil=>rfl
 | cons b s =>
   have hl:=hexL_len (b :: s)
   simp only [List.length_cons] at hl h
   simp only [List.isEmpty_cons]
   rw [show (if false=true then [(45:UInt8)] else hexL (b :: s))=hexL (b :: s) from rfl,if_neg,bys_hex]
   rintro (q | q)
   · rw [q] at hl;simp at hl;omega
   · omega
theorem kindR_at {k:Nat} (h:k < 7):kindL (kindName k) kindNames 0 99=k:=by
 have:∀ y:Fin 7,kindL (kindName y.val) kindNames 0 99=y.val:=by decide +kernel
 exact this ⟨k,h⟩
theorem nameR_at {k:Nat} (h:k < 8):kindL (nameOf k) names 0 99=k:=by
 have:∀ y:Fin 8,kindL (nameOf y.val) names 0 99=y.val:=by decide +kernel
 exact this ⟨k,h⟩
theorem hexS_no:∀ s:List UInt8,(32:UInt8) ∉ hexS s
 | []=>by decide
 | b :: s=>by
   have h:∀ y:Fin 16,hx y.val≠32:=by decide +kernel
   intro q
   have q:(32:UInt8)∈hexL (b :: s):=q
   rw [hexL,List.mem_flatMap] at q
   obtain ⟨c,_,hc⟩:=q
   have hb:c.toNat < 256:=UInt8.toNat_lt c
   simp only [hx2,List.mem_cons,List.not_mem_nil,or_false] at hc
   rcases hc with hc | hc
   · exact h ⟨c.toNat / 16,by omega⟩ hc.symm
   · exact h ⟨c.toNat % 16,by omega⟩ hc.symm
theorem evR_txt (e:Ev) (hp:e.page < 65536) (h:e.fine):evR e.txt=e:=by
 obtain ⟨h1,h2,h3,h4,h5,h6,h7,h8⟩:=h
 obtain ⟨kind,a,b,ck,txn,page,off,s,keep⟩:=e
 simp only at h1 h2 h3 h4 h5 h6 h7 h8 hp
 subst h4
 obtain ⟨a,rfl⟩:=Int.eq_ofNat_of_zero_le h2
 by_cases k0:kind=0
 · subst k0
   obtain ⟨g1,g2,g3,g4,g5,g6,g7,g8,g9⟩:=h7 rfl
   have k1:keep=[]:=List.length_eq_zero_iff.1 (h6 (by omega))
   subst k1
   obtain ⟨off,rfl⟩:=Int.eq_ofNat_of_zero_le g4
   unfold Ev.txt
   rw [if_pos rfl]
   simp only [Int.toNat_natCast]
   generalize ht:((if fTxn ck then 32 :: dec txn else [])++((if fPage ck then 32 :: dec page else [])++(if fOff ck then 32 :: (dec off++32 :: hexS s) else [])))=tail
   have nm:=name_no g2
   have fin:∀ l,wdsT (nameOf ck++tail)=nameOf ck :: l→(if 1≤ck∧ck≤4 then valL 12 0 (l.getD 0 []) else 0)=txn→(if ck=1∨ck=2 then valL 12 0 (l.getD 1 []) else 0)=page→(if ck=2 then valL 12 0 (l.getD 2 []) else 0)=off→(if ck=2 then (if l.getD 3 []=[45]∨128 < (l.getD 3 []).length then [] else bysL (l.getD 3 [])) else [])=s →
       evR ([97,115,107]++32 :: (dec a++32 :: (nameOf ck++tail)))={ kind:=0,a:=a,b:=0,ck:=ck,txn:=txn,page:=page,off:=off,s:=s,keep:=[] }:=by
     intro l q1 q2 q3 q4 q5
     unfold evR
     rw [wds_mk (by decide),wds_mk (no32 a),q1]
     simp only [List.getD_cons_zero]
     rw [show kindL [97,115,107] kindNames 0 99=0 by decide +kernel,if_pos rfl]
     have ec:ckT ([97,115,107] :: dec a :: nameOf ck :: l)=ck:=by
       unfold ckT
       rw [if_pos (by simp only [List.length_cons];omega)]
       exact nameR_at g2
     rw [ec]
     have ev:∀ i,valT ([97,115,107] :: dec a :: nameOf ck :: l) (i + 3)=valL 12 0 (l.getD i []):=fun i=>rfl
     rw [show valT ([97,115,107] :: dec a :: nameOf ck :: l) 1=valL 12 0 (dec a) from rfl,ev 0,ev 1,ev 2,show bytT ([97,115,107] :: dec a :: nameOf ck :: l) 6=(if l.getD 3 []=[45]∨128 < (l.getD 3 []).length then [] else bysL (l.getD 3 [])) from rfl,q4,q5,valL_at (by omega)]
     congr 1
     · split
       · rename_i q;rw [if_pos q] at q2;rw [q2];omega
       · rename_i q;rw [if_neg q] at q2;omega
     · split
       · rename_i q;rw [if_pos q] at q3;rw [q3];omega
       · rename_i q;rw [if_neg q] at q3;omega
   by_cases c2:ck=2
   · subst c2
     have e1:tail=32 :: (dec txn++32 :: (dec page++32 :: (dec off++32 :: hexS s))):=by rw [← ht];simp [fTxn,fPage,fOff]
     refine fin [dec txn,dec page,dec off,hexS s] (by rw [e1,wds_mk nm,wds_mk (no32 _),wds_mk (no32 _),wds_mk (no32 _),wds_end (hexS_no s)]) ?_ ?_ ?_ ?_
     · rw [if_pos (by omega)];exact valL_at g3
     · rw [if_pos (by omega)];exact valL_at (by omega)
     · rw [if_pos rfl];exact valL_at (by omega)
     · rw [if_pos rfl];exact bytes_hex g6
   · obtain ⟨o0,s0⟩:=g9 c2
     have o0:off=0:=by omega
     have s0:s=[]:=List.length_eq_zero_iff.1 s0
     subst o0 s0
     by_cases c1:ck=1
     · subst c1
       have e1:tail=32 :: (dec txn++32 :: dec page):=by rw [← ht];simp [fTxn,fPage,fOff]
       refine fin [dec txn,dec page] (by rw [e1,wds_mk nm,wds_mk (no32 _),wds_end (no32 _)]) ?_ ?_ (if_neg (by omega)) (if_neg (by omega))
       · rw [if_pos (by omega)];exact valL_at g3
       · rw [if_pos (by omega)];exact valL_at (by omega)
     · have p0:page=0:=g8 (by omega)
       subst p0
       by_cases c3:1≤ck∧ck≤4
       · have f1:fTxn ck=true:=decide_eq_true c3
         have f2:fPage ck=false:=decide_eq_false (by omega)
         have f3:fOff ck=false:=decide_eq_false (by omega)
         have e1:tail=32 :: dec txn:=by rw [← ht,f1,f2,f3];simp
         refine fin [dec txn] (by rw [e1,wds_mk nm,wds_end (no32 _)]) ?_ (if_neg (by omega)) (if_neg (by omega)) (if_neg (by omega))
         rw [if_pos (by omega)];exact valL_at g3
       · have t0:txn=0:=g7 c3
         subst t0
         have f1:fTxn ck=false:=decide_eq_false c3
         have f2:fPage ck=false:=decide_eq_false (by omega)
         have f3:fOff ck=false:=decide_eq_false (by omega)
         have e1:tail=[]:=by rw [← ht,f1,f2,f3];simp
         exact fin [] (by rw [e1,List.append_nil,wds_end nm]) (if_neg (by omega)) (if_neg (by omega)) (if_neg (by omega)) (if_neg (by omega))
 · obtain ⟨r1,r2,r3,r4,r5⟩:=h5 k0
   have s0:s=[]:=List.length_eq_zero_iff.1 r5
   subst r1 r2 r3 r4 s0
   by_cases k5:kind=5
   · subst k5
     obtain ⟨a0,kl⟩:=h8 rfl
     rw [a0]
     have key:∀ r,r=(if keep.length=0 then [45] else bitsT keep)→evR ([99,114,97,115,104]++32 :: r)={ kind:=5,a:=0,b:=0,ck:=0,txn:=0,page:=0,off:=0,s:=[],keep:=keep }:=by
       intro r hr
       have hn:(32:UInt8) ∉ r:=by
         rw [hr];split
         · decide
         · exact bits_no keep
       unfold evR
       rw [wds_mk (by decide),wds_end hn]
       simp only [List.getD_cons_zero]
       rw [show kindL [99,114,97,115,104] kindNames 0 99=5 by decide +kernel,if_neg (by decide),if_pos rfl]
       rw [show ([[99,114,97,115,104],r]:List (List UInt8)).getD 1 []=r from rfl]
       by_cases hk:keep.length=0
       · rw [if_pos hk] at hr
         rw [if_neg (fun q=>q.2 hr),List.length_eq_zero_iff.1 hk];rfl
       · rw [if_neg hk] at hr
         rw [hr,if_pos ⟨by simp,bits_dash keep⟩,bits_back];rfl
     exact key _ rfl
   · have k0':keep=[]:=List.length_eq_zero_iff.1 (h6 k5)
     subst k0'
     unfold Ev.txt
     rw [if_neg k0,if_neg k5]
     unfold evR
     rw [wds_mk (kind_no h1),wds_end (no32 _)]
     simp only [List.getD_cons_zero]
     rw [kindR_at h1,if_neg k0,if_neg k5]
     simp only [Int.toNat_natCast]
     rw [show valT [kindName kind,dec a] 1=valL 12 0 (dec a) from rfl,valL_at (by omega)]
     rfl
end Go.Proofs.YtcglbpjpbjaecaaGreat.Sh
namespace Go.Proofs.YtcglbpjpbjaecaaGreat.Sh
open Go Go.Ab Go.RowKit
open Go.Proofs.YtcglbpjpbjaecaaGreat.Ru (Pg okP)
open Go.Proofs.YtcglbpjpbjaecaaGreat.Sj (cutAt cutP cut_idx idxB)
set_option maxRecDepth 10000
def lnOk (f:List UInt8→Ev) (s:List UInt8):Prop:=(f s).fine∧(f s).txt=s
instance (f:List UInt8→Ev) (s:List UInt8):Decidable (lnOk f s):=by unfold lnOk;infer_instance
theorem evR_page (s:List UInt8):(evR s).page < 65536:=by
 unfold evR
 simp only []
 split
 · show (if ckT (wdsT s)=1∨ckT (wdsT s)=2 then (valT (wdsT s) 4 % 65536).toNat else 0) < 65536
   split <;> omega
 · split
   · exact Nat.zero_lt_succ _
   · exact Nat.zero_lt_succ _
theorem ok_TR {s:List UInt8} (hs:(evT s).page < 65536) (h:lnOk evT s):evR s=evT s:=by
 have:=evR_txt (evT s) hs h.1
 rw [h.2] at this;exact this
theorem ok_RT {s:List UInt8} (h:lnOk evR s):evT s=evR s:=by
 have:=evT_txt (evR s) (evR_page s) h.1
 rw [h.2] at this;exact this
theorem ok_iff {s:List UInt8} (hs:(evT s).page < 65536):lnOk evT s↔lnOk evR s :=
 ⟨fun h=>by have e:=ok_TR hs h;unfold lnOk at *;rw [e];exact h,fun h=>by have e:=ok_RT h;unfold lnOk at *;rw [e];exact h⟩
def lnsL:List UInt8→List UInt8→List (List UInt8) × List UInt8
 | w,[]=>([],w)
 | w,c :: s=>if c=10 then (w :: (lnsL [] s).1,(lnsL [] s).2) else lnsL (w++[c]) s
def prsL (f:List UInt8→Ev):Nat→List (List UInt8)→List UInt8→List Ev→List Ev × Nat × Nat
 | n,[],rest,out=>if rest=[] then (out,0,0) else if 2000 < n + 1 then ([],n + 1,10) else ([],n + 1,2)
 | n,l :: ls,rest,out=>if 2000 < n + 1 then ([],n + 1,10) else if lnOk f l then prsL f (n + 1) ls rest (out++[f l]) else ([],n + 1,2)
def parT (f:List UInt8→Ev) (s:List UInt8):List Ev × Nat × Nat:=if 131072 < s.length then ([],0,10) else prsL f 0 (lnsL [] s).1 (lnsL [] s).2 []
theorem prs_same:∀ (ls:List (List UInt8)) (n:Nat) (rest:List UInt8) (out:List Ev),(∀ l∈ls,(evT l).page < 65536)→prsL evT n ls rest out=prsL evR n ls rest out
 | [],n,rest,out,_=>rfl
 | l :: ls,n,rest,out,h=>by
   have hl:=h l List.mem_cons_self
   have ih:=fun out=>prs_same ls (n + 1) rest out fun x hx=>h x (List.mem_cons_of_mem _ hx)
   rw [prsL,prsL]
   by_cases hn:2000 < n + 1
   · rw [if_pos hn,if_pos hn]
   · rw [if_neg hn,if_neg hn]
     by_cases ho:lnOk evT l
     · rw [if_pos ho,if_pos ((ok_iff hl).1 ho),ih,ok_TR hl ho]
     · rw [if_neg ho,if_neg (fun q=>ho ((ok_iff hl).2 q))]
theorem lns_len:∀ (s w l:List UInt8),l∈(lnsL w s).1→l.length≤w.length + s.length
 | [],w,l,h=>by simp [lnsL] at h
 | c :: s,w,l,h=>by
   unfold lnsL at h
   split at h
   · rcases List.mem_cons.1 h with rfl | q
     · simp
     · have:=lns_len s [] l q
       simp at this ⊢;omega
   · have:=lns_len s (w++[c]) l h
     simp at this ⊢;omega
theorem prs_ok (f:List UInt8→Ev):∀ (ls:List (List UInt8)) (n:Nat) (rest:List UInt8) (out:List Ev),(prsL f n ls rest out).2.2=0→prsL f n ls rest out=(out++ls.map f,0,0)∧rest=[]∧(∀ l∈ls,lnOk f l)∧(n≤2000→n + ls.length≤2000)
 | [],n,rest,out,h=>by
   unfold prsL at h ⊢
   by_cases hr:rest=[]
   · simp [hr]
   · rw [if_neg hr] at h
     split at h <;> simp at h
 | l :: ls,n,rest,out,h=>by
   unfold prsL at h ⊢
   by_cases hn:2000 < n + 1
   · rw [if_pos hn] at h;simp at h
   · rw [if_neg hn] at h ⊢
     by_cases ho:lnOk f l
     · rw [if_pos ho] at h ⊢
       obtain ⟨h1,h2,h3,h4⟩:=prs_ok f ls (n + 1) rest _ h
       refine ⟨by rw [h1];simp,h2,fun x hx=>?_,fun _=>by have:=h4 (by omega);simp;omega⟩
       rcases List.mem_cons.1 hx with rfl | q
       · exact ho
       · exact h3 x q
     · rw [if_neg ho] at h;simp at h
theorem prs_no (f:List UInt8→Ev):∀ (ls:List (List UInt8)) (n:Nat) (rest:List UInt8) (out:List Ev),(prsL f n ls rest out).2.2≠0→(prsL f n ls rest out).1=[]
 | [],n,rest,out,h=>by
   unfold prsL at h ⊢
   split
   · rename_i hr;rw [if_pos hr] at h;simp at h
   · split <;> rfl
 | l :: ls,n,rest,out,h=>by
   unfold prsL at h ⊢
   by_cases hn:2000 < n + 1
   · rw [if_pos hn]
   · rw [if_neg hn] at h ⊢
     by_cases ho:lnOk f l
     · rw [if_pos ho] at h ⊢;exact prs_no f ls (n + 1) rest _ h
     · rw [if_neg ho]
end Go.Proofs.YtcglbpjpbjaecaaGreat.Sh
namespace Go.Proofs.YtcglbpjpbjaecaaGreat.Sh
open Go Go.Ab Go.RowKit
open Go.Proofs.YtcglbpjpbjaecaaGreat.Ru (Pg okP)
open Go.Proofs.YtcglbpjpbjaecaaGreat.Sj (cutAt cutP cut_idx idxB)
set_option maxRecDepth 10000
theorem par_no {s:List UInt8} (f:List UInt8→Ev) (h:(parT f s).2.2≠0):(parT f s).1=[]:=by
 unfold parT at h ⊢
 by_cases hn:131072 < s.length
 · rw [if_pos hn]
 · rw [if_neg hn] at h ⊢
   exact prs_no f _ _ _ _ h
theorem par_same {s:List UInt8} (hp:∀ l:List UInt8,l.length≤131072→(evT l).page < 65536):parT evT s=parT evR s:=by
 unfold parT
 by_cases hn:131072 < s.length
 · rw [if_pos hn,if_pos hn]
 · rw [if_neg hn,if_neg hn]
   exact prs_same _ _ _ _ fun l hl=>hp l (by have:=lns_len s [] l hl;simp at this;omega)
end Go.Proofs.YtcglbpjpbjaecaaGreat.Sh
namespace Go.Proofs.YtcglbpjpbjaecaaGreat.Sh
open Go Go.Ab Go.RowKit
open Go.Proofs.YtcglbpjpbjaecaaGreat.Ru (Pg okP)
open Go.Proofs.YtcglbpjpbjaecaaGreat.Sj (cutAt cutP cut_idx idxB)
set_option maxRecDepth 10000
set_option linter.unusedSectionVars false
theorem cut_lns (s:List UInt8):((cutAt 10 s).2.2=true∧lnsL [] s=((cutAt 10 s).1 :: (lnsL [] (cutAt 10 s).2.1).1,(lnsL [] (cutAt 10 s).2.1).2))∨((cutAt 10 s).2.2=false∧lnsL [] s=([],s)∧(cutAt 10 s).1=s):=by
 have key:∀ (s w:List UInt8),((cutAt 10 s).2.2=true∧lnsL w s=((w++(cutAt 10 s).1) :: (lnsL [] (cutAt 10 s).2.1).1,(lnsL [] (cutAt 10 s).2.1).2))∨((cutAt 10 s).2.2=false∧lnsL w s=([],w++s)∧(cutAt 10 s).1=s):=by
   intro s
   induction s with
   | nil=>intro w;right;simp [cutAt,lnsL]
   | cons b s ih =>
     intro w
     by_cases hb:b=10
     · subst hb
       left;simp [cutAt,lnsL]
     · rcases ih (w++[b]) with ⟨h1,h2⟩ | ⟨h1,h2,h3⟩
       · left;simp [cutAt,lnsL,hb,h1,h2]
       · right;simp [cutAt,lnsL,hb,h1,h2,h3]
 simpa using key s []
theorem cut_rest (s:List UInt8) (hs:s≠[]):(cutAt 10 s).2.1.length < s.length:=by
 cases s with
 | nil=>exact absurd rfl hs
 | cons b s =>
   have:=cutAt_len 10 s
   unfold cutAt
   split
   · simp
   · simp;omega
def ParseEnd (r:List Ev × Nat × Nat) (h0:AH):AEnd→AH→Prop:=fun ed h'=>∃ y,ed=.ret (.tup [y,.int .i64 r.2.1,.int .i64 r.2.2])∧ScrB h' y r.1∧h0.next≤h'.next∧∀ n,n < h0.next→h'.m n=h0.m n
structure PM (h0 h:AH) (y:V) (out:List Ev):Prop where
 row:∃ ys,RowB 73 h y ys∧EvsAt h ys out
 y:Young 73 h0.next y
 nx:h0.next≤h.next
 fr:∀ n,n < h0.next→h.m n=h0.m n
theorem PM.keep {h0 h h':AH} {y:V} {out:List Ev} (p:PM h0 h y out) (hn:h.next≤h'.next) (hk:∀ n,n < h.next→h'.m n=h.m n):PM h0 h' y out:=by
 obtain ⟨ys,r,e⟩:=p.row
 refine ⟨⟨ys,?_,e.keep hn hk⟩,p.y,Nat.le_trans p.nx hn,fun n q=>(hk n (by have:=p.nx;omega)).trans (p.fr n q)⟩
 rcases r with ⟨rfl,q⟩ | ⟨n,q1,rfl,q3⟩
 · exact .inl ⟨rfl,q⟩
 · exact .inr ⟨n,by omega,rfl,(hk n q1).trans q3⟩
theorem PM.scr {h0 h:AH} {y:V} {out:List Ev} (p:PM h0 h y out):ScrB h y out:=by
 obtain ⟨ys,r,e⟩:=p.row
 exact scrB_row r e
theorem PM.nil (h0:AH):PM h0 h0 (.slc none 0) []:=⟨⟨[],.inl ⟨rfl,rfl⟩,rfl,fun i e h=>by simp at h⟩,(fun k _ len q=>by cases q),Nat.le_refl _,fun n _=>rfl⟩
theorem PM.app {h0 h h1:AH} {y k:V} {out:List Ev} {e:Ev} (p:PM h0 h y out) (hk:KeepB h k e.keep) (u:New h h1 (.cells true (.row 73) (.agg [evV e k]))) (hl:out.length≤2100) :
   ∃ y' h2,aBuiltin Pg h1 .append [84,84] [y,.slc (some (⟨h.next,.row 73,[]⟩,0)) 1]=some (y',h2)∧PM h0 h2 y' (out++[e]):=by
 have n1:=u.next
 have k1:∀ n,n < h.next→h1.m n=h.m n:=fun n q=>u.other n (by omega)
 have p1:=p.keep (h':=h1) (by omega) k1
 have hk1:=hk.keep (h':=h1) (by omega) k1
 obtain ⟨ys,r,ev⟩:=p1.row
 have hyl:ys.length≤2100:=by rw [ev.1];exact hl
 obtain ⟨y',h2,e2,r2,n2,f2,y2⟩:=r.app ap84 (elems_row (by exact u.at_)) (by simp) (by have:=by73;exact Nat.le_trans (Nat.mul_le_mul (show ys.length + 1≤2101 by omega) this) (by decide))
 have t2:∀ n xs,n < h1.next→h1.m n=some (.cells true (.row 4) xs)→h2.m n=h1.m n:=fun n xs q1 q2=>f2 n q1 fun len q=>by
   rcases r with ⟨rfl,_⟩ | ⟨n',g1,rfl,g3⟩
   · cases q
   · simp only [V.slc.injEq,Option.some.injEq,Prod.mk.injEq,PA.mk.injEq] at q
     rw [q.1.1.1,q2] at g3;cases g3
 have nx:=p.nx
 exact ⟨y',h2,e2,⟨_,r2,(ev.keepT (by omega) t2).snoc (hk1.keepT (by omega) t2)⟩,fun n q len=>y2 n (by omega) len,by omega,fun n q=>(f2 n (by omega) (p.y n q)).trans (p1.fr n q)⟩
theorem callE2 {f:FuncId} {args:List V} {h:AH} {R:AEnd→AH→Prop} {K X:V→AH→Prop} (c:ACalls Pg f args h R) (k:∀ e h',R e h'→∃ v,e=.ret v∧K v h'):ACalls Pg f args h (aEnd K X) :=
 c.mono fun e h' q=>by obtain ⟨v,rfl,q2⟩:=k e h' q;exact q2
theorem zn73:∃ z,zeroV Pg 73=some z∧hasShape Pg z 73=true:=⟨_,show zeroV Pg 73=some (evV ev0 (.slc none 0)) by kernel_rfl,s73 ev0 none 0⟩
section
variable {r:List Ev × Nat × Nat} {h0:AH} {s0:List UInt8}
theorem line43 {s:List UInt8} {y:V} {h:AH} {out:List Ev} {n m:Nat} (hs:s.length≤131072) (hne:s≠[]) (hn:1≤n∧n≤2001) (ho:out.length < n) (p:PM h0 h y out) (hr:r=prsL evT (n - 1) (lnsL [] s).1 (lnsL [] s).2 out)
   (cont:∀ y' h',PM h0 h' y' (out++[evT (cutAt 10 s).1])→n + 1≤2001→r=prsL evT n (lnsL [] (cutAt 10 s).2.1).1 (lnsL [] (cutAt 10 s).2.1).2 (out++[evT (cutAt 10 s).1])→Lz6b (ParseEnd r h0) m (.str (cutAt 10 s).2.1) y' (.int .i64 ((n + 1:Nat):Int)) h') :
   Jz51 (ParseEnd r h0) m (.str s) y (.int .i64 n) h:=by
 have hcl:=cutAt_len 10 s
 have nxp:=p.nx
 rw [Jz51_eq]
 refine callS (cutP s 10 (by omega) h) ?_
 refine bindS_mk (show aExtract _ _=some _ from rfl) ?_
 refine bindS_mk (show aExtract _ _=some _ from rfl) ?_
 refine bindS_mk (show aExtract _ _=some _ from rfl) ?_
 refine bindS_mk b_gtr ?_
 refine i_split (fun c=>?_) (fun c=>?_)
 · replace c:=of_decide_eq_true c
   have e1:r=([],n,10):=by
     rcases cut_lns s with ⟨q1,q2⟩ | ⟨q1,q2,q3⟩
     · rw [hr,q2,prsL,if_pos (by omega),show n - 1 + 1=n by omega]
     · rw [hr,q2,prsL,if_neg hne,if_pos (by omega),show n - 1 + 1=n by omega]
   rw [e1]
   exact ⟨_,rfl,.inl ⟨rfl,rfl⟩,p.nx,p.fr⟩
 · replace c:=of_decide_eq_false c
   have hn2:n≤2000:=by omega
   refine Meet.of (cast_p (Jz52_eq _ _ _ _ _ _ _ _) ?_)
   refine callE2 (eventP (cutAt 10 s).1 (by omega) h) ?_
   rintro e h1 ⟨k,rfl,hk,n1,f1⟩
   refine ⟨_,rfl,?_⟩
   refine bindS_mk (show aExtract _ _=some _ from rfl) ?_
   refine bindS_mk (show aExtract _ _=some _ from rfl) ?_
   obtain ⟨a,rfl⟩:=hk.shape
   obtain ⟨z,hz1,hz2⟩:=zn73
   refine bindE (al_at hz1 hz2) fun h2 u2=>?_
   have n2:=u2.next
   refine bindE (st_at (p:=[]) u2.at_ (by kernel_rfl) rfl (s73 _ a _) rfl) fun h3 u3=>?_
   have n3:=u3.next
   have f3:∀ n,n < h1.next→h3.m n=h1.m n:=fun n q=>(u3.other n (by omega)).trans (u2.other n (by omega))
   have p1:=p.keep n1 f1
   have p3:=p1.keep (h':=h3) (by omega) f3
   have hk3:=hk.keep (h':=h3) (by omega) f3
   have bad:lnsL [] s=([],s)∨¬ lnOk evT (cutAt 10 s).1→r=([],n,2):=by
     intro q
     rcases cut_lns s with ⟨q1,q2⟩ | ⟨q1,q2,q3⟩
     · rcases q with q | q
       · rw [q] at q2;cases q2
       · rw [hr,q2,prsL,if_neg (by omega),if_neg q,show n - 1 + 1=n by omega]
     · rw [hr,q2,prsL,if_neg hne,if_neg (by omega),show n - 1 + 1=n by omega]
   have stop:(lnsL [] s=([],s)∨¬ lnOk evT (cutAt 10 s).1)→Jz53 (ParseEnd r h0) m y (.int .i64 n) (.str (cutAt 10 s).2.1) (.ptr (some ⟨h1.next,.one 73,[]⟩)) (.bool true) h3:=by
     intro q
     rw [Jz53_eq]
     refine i_t ?_
     rw [bad q]
     exact ⟨_,rfl,.inl ⟨rfl,rfl⟩,p3.nx,p3.fr⟩
   rcases cut_lns s with ⟨q1,q2⟩ | ⟨q1,q2,q3⟩
   · rw [q1]
     refine bindS_mk u_not ?_
     refine g_ff ?_
     refine bindS_mk u_not ?_
     refine Meet.of (cast_p (Gz1n_eq _ _ _ _ _ _ _ _ _) ?_)
     refine bindV_mk p_f ?_
     by_cases ok:lnOk evT (cutAt 10 s).1
     · rw [show (!decide ((evT (cutAt 10 s).1).fine∧(evT (cutAt 10 s).1).txt=(cutAt 10 s).1))=false by rw [decide_eq_true (show _∧_ from ok)];rfl]
       refine Meet.of (cast_p (Jz53_eq _ _ _ _ _ _ _ _) ?_)
       refine i_f ?_
       refine Meet.of (cast_p (Jz54_eq _ _ _ _ _ _ _) ?_)
       refine bindV_mk (ld_mk u3.at_ (by kernel_rfl) rfl) ?_
       refine bindE (bs1_at (e:=73) (by kernel_rfl) hz1 (s73 (evT (cutAt 10 s).1) a _)) fun h4 u4=>?_
       obtain ⟨y',h5,e5,p5⟩:=p3.app hk3 u4 (by omega)
       refine bindV_mk e5 ?_
       refine Meet.of (cast_p (Jz55_eq _ _ _ _ _ _) ?_)
       refine bindS_mk (w_add (wrap_i64 (by omega) (by omega))) ?_
       refine Meet.of (cont y' h5 p5 (by omega) ?_)
       rw [hr,q2,prsL,if_neg (by omega),if_pos ok,show n - 1 + 1=n by omega]
     · rw [show (!decide ((evT (cutAt 10 s).1).fine∧(evT (cutAt 10 s).1).txt=(cutAt 10 s).1))=true by rw [decide_eq_false (show ¬ (_∧_) from ok)];rfl]
       exact Meet.of (stop (.inr ok))
   · rw [q1]
     refine bindS_mk u_not ?_
     refine g_tf ?_
     refine Meet.of (cast_p (Gz1n_eq _ _ _ _ _ _ _ _ _) ?_)
     refine bindV_mk p_t ?_
     exact Meet.of (stop (.inl q2))
theorem loop43:∀ (j m n:Nat) (s:List UInt8) (y:V) (h:AH) (out:List Ev),s.length≤j→j < m→s.length≤131072→1≤n∧n≤2001→out.length < n→PM h0 h y out→r=prsL evT (n - 1) (lnsL [] s).1 (lnsL [] s).2 out→Lz6b (ParseEnd r h0) m (.str s) y (.int .i64 n) h
 | j,0,n,s,y,h,out,hj,hm,_,_,_,_,_=>by omega
 | j,m + 1,n,s,y,h,out,hj,hm,hs,hn,ho,p,hr=>by
   rw [Lz6b_eq]
   refine bindS_mk t_neq ?_
   by_cases hne:s=[]
   · subst hne
     rw [show (!(([]:List UInt8) == []))=false from rfl]
     refine i_f ?_
     refine Meet.of (cast_p (Jz56_eq _ _ _) ?_)
     have e1:r=(out,0,0):=by rw [hr];rfl
     rw [e1]
     exact ⟨y,rfl,p.scr,p.nx,p.fr⟩
   · rw [show (!(s == ([]:List UInt8)))=true by rw [beq_eq_false_iff_ne.2 hne];rfl]
     refine i_t ?_
     have hlt:=cut_rest s hne
     refine Meet.of (line43 hs hne hn ho p hr fun y' h' p' hn' hr'=>?_)
     match j with
     | 0=>exact absurd (List.length_eq_zero_iff.1 (by omega)) hne
     | j + 1=>exact loop43 j m (n + 1) _ y' h' _ (by omega) (by omega) (by omega) ⟨by omega,hn'⟩ (by simp;omega) p' hr'
end
theorem parseP (s:List UInt8) (h0:AH):ACalls Pg 43 [.str s] h0 (ParseEnd (parT evT s) h0):=by
 refine C43 _ _ _ ?_
 refine bindV_mk (len_str (by kernel_rfl)) ?_
 refine bindS_mk b_gtr ?_
 refine i_split (fun c=>?_) (fun c=>?_)
 · replace c:=of_decide_eq_true c
   rw [show parT evT s=([],0,10) from if_pos (by omega)]
   exact ⟨_,rfl,.inl ⟨rfl,rfl⟩,Nat.le_refl _,fun _ _=>rfl⟩
 · replace c:=of_decide_eq_false c
   refine Meet.of (cast_p (Jz50_eq _ _ _) ?_)
   exact ⟨s.length + 1,Meet.of (loop43 s.length (s.length + 1) 1 s _ _ [] (Nat.le_refl _) (by omega) (by omega) (by omega) (by simp) (PM.nil h0) (if_neg (by omega)))⟩
end Go.Proofs.YtcglbpjpbjaecaaGreat.Sh
