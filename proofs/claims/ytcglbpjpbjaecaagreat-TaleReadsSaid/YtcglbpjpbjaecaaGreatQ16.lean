import Derived.Test.YtcglbpjpbjaecaaGreatQ15
import Derived.Test.YtcglbpjpbjaecaaGreatQ06
import Derived.Test.YtcglbpjpbjaecaaGreatQ14
set_option linter.unusedVariables false
set_option linter.unusedSimpArgs false
namespace Go.Proofs.YtcglbpjpbjaecaaGreat.Sh
open Go Go.Ab Go.RowKit
open Go.Proofs.YtcglbpjpbjaecaaGreat.Ru (Pg okP)
set_option maxRecDepth 10000
def KeepB (h:AH) (k:V) (l:List Bool):Prop :=
 (k=.slc none 0∧l=[])∨∃ n,n < h.next∧k=.slc (some (⟨n,.row 4,[]⟩,0)) l.length∧h.m n=some (.cells true (.row 4) (.agg (boolsV l)))
theorem KeepB.shape {h:AH} {k:V} {l:List Bool} (b:KeepB h k l):∃ a,k=.slc a l.length:=by
 rcases b with ⟨rfl,rfl⟩ | ⟨n,_,rfl,_⟩ <;> exact ⟨_,rfl⟩
theorem KeepB.keep {h h':AH} {k:V} {l:List Bool} (b:KeepB h k l) (hn:h.next≤h'.next) (hk:∀ n,n < h.next→h'.m n=h.m n):KeepB h' k l:=by
 rcases b with ⟨rfl,rfl⟩ | ⟨n,h1,rfl,h3⟩
 · exact .inl ⟨rfl,rfl⟩
 · exact .inr ⟨n,by omega,rfl,(hk n h1).trans h3⟩
def Ends (v:V) (h0:AH):AEnd→AH→Prop:=fun e h'=>e=.ret v∧∀ n,n < h0.next→h'.m n=h0.m n
def rowV (k:Nat):V:=.agg [.str (nameOf k),.bool (fTxn k),.bool (fPage k),.bool (fOff k),.bool (fOff k)]
theorem getRow {k:Nat} (h:k < 8):getV (.agg callV) [0 + (k:Int).toNat]=some (rowV k):=by
 have:∀ y:Fin 8,getV (.agg callV) [0 + (y.val:Int).toNat]=some (rowV y.val):=by
   intro y
   match y with
   | ⟨0,_⟩=>rfl
   | ⟨1,_⟩=>rfl
   | ⟨2,_⟩=>rfl
   | ⟨3,_⟩=>rfl
   | ⟨4,_⟩=>rfl
   | ⟨5,_⟩=>rfl
   | ⟨6,_⟩=>rfl
   | ⟨7,_⟩=>rfl
 exact this ⟨k,h⟩
theorem getKind {k:Nat} (h:k < 7):getV (.agg (kindNames.map V.str)) [0 + (k:Int).toNat]=some (.str (kindName k)):=by
 have:∀ y:Fin 7,getV (.agg (kindNames.map V.str)) [0 + (y.val:Int).toNat]=some (.str (kindName y.val)):=by
   intro y
   match y with
   | ⟨0,_⟩=>rfl
   | ⟨1,_⟩=>rfl
   | ⟨2,_⟩=>rfl
   | ⟨3,_⟩=>rfl
   | ⟨4,_⟩=>rfl
   | ⟨5,_⟩=>rfl
   | ⟨6,_⟩=>rfl
 exact this ⟨k,h⟩
theorem kindName_len (k:Nat):(kindName k).length≤10:=by
 by_cases h:k < 7
 · have:∀ y:Fin 7,(kindName y.val).length≤10:=by decide +kernel
   exact this ⟨k,h⟩
 · unfold kindName;rw [List.getD_eq_getElem?_getD,List.getElem?_eq_none (by show 7≤k;omega)];decide
def pTxn (e:Ev):List UInt8:=if fTxn e.ck then 32 :: dec e.txn else []
def pPage (e:Ev):List UInt8:=if fPage e.ck then 32 :: dec e.page else []
def pOff (e:Ev):List UInt8:=if fOff e.ck then 32 :: (dec e.off.toNat++32 :: hexS e.s) else []
theorem numN (n:Nat) (hn:n < 18446744073709551616) (h:AH):ACalls Pg 117 [.int .u64 n] h (pureE (.str (dec n)) h):=numP n (by omega) (by omega) h
section
variable (e:Ev) (ok:e.ok) {v:V} {h0:AH} {n1 n6 n8:Nat} {h:AH} {k:V}
include ok
theorem st3 (s:List UInt8) (hs:s.length≤500) (h64:e.s.length≤64) (ho:0≤e.off) (hv:.tup [.str (s++pOff e),.bool true]=v) (hn:h0.next≤h.next) (fr:∀ n,n < h0.next→h.m n=h0.m n) (hm6:h.m n6=some (.cells true (.one 57) (cV e))) (hn6:n6 < h.next∧h0.next≤n6) (hm8:h.m n8=some (.cells true (.one 225) (rowV e.ck))) (hn8:n8 < h.next∧h0.next≤n8):Jz39 (Ends v h0) (.str s) (.ptr (some ⟨n6,.one 57,[]⟩)) (.ptr (some ⟨n8,.one 225,[]⟩)) h:=by
 have k1:=ok.kind;have k2:=ok.a;have k3:=ok.b;have k4:=ok.ck;have k5:=ok.txn;have k6:=ok.page;have k7:=ok.off;have k8:=ok.s;have k9:=ok.keep
 rw [Jz39_eq]
 refine bindS_mk (fa_mk (by kernel_rfl)) ?_
 refine bindV_mk (ld_mk hm8 (by kernel_rfl) rfl) ?_
 refine i_split (fun c1=>?_) (fun c1=>?_)
 · try rw [c1]
   refine bindSO_mk (fa_mk (by kernel_rfl)) ?_
   refine bindVO_mk (ld_mk hm6 (by kernel_rfl) rfl) ?_
   refine bindSO_mk (cv_wr (d:=49) (k:=.u64) (by kernel_rfl) (wr_u64 (by omega) (by omega))) ?_
   refine ⟨_,numP _ (by omega) (by omega) _,?_⟩
   refine bindSO_mk (fa_mk (by kernel_rfl)) ?_
   refine bindVO_mk (ld_mk hm6 (by kernel_rfl) rfl) ?_
   refine ⟨_,bytesP _ (by omega) _,?_⟩
   refine bindE (bs3_at (e:=9) (by kernel_rfl) z9 (by kernel_rfl) (by kernel_rfl) (by kernel_rfl)) fun h2 u2=>?_
   have n2:=u2.next
   have fFR_2:=fun k (hk:k < h0.next)=>(u2.other k (by omega)).trans (fr k hk)
   have fX6_2:=(u2.other _ (by omega)).trans hm6
   have fX8_2:=(u2.other _ (by omega)).trans hm8
   have f2_2:=u2.at_
   refine ⟨_,wordsP _ _ [s,dec e.off.toNat,hexS e.s] _ f2_2 (by simp) (by simp) (by rw [jn3];have l1:=hexS_len e.s;have l2:=dec_len20 (n:=e.off.toNat) (by omega);simp;omega),?_⟩
   refine Meet.of (cast_p (Jz3f_eq _ _ _) ?_)
   refine ⟨congrArg AEnd.ret ?_,fFR_2⟩
   rw [← hv,pOff];simp [*,jn3,jn2]
 · try rw [c1]
   refine Meet.of (cast_p (Jz3f_eq _ _ _) ?_)
   refine ⟨congrArg AEnd.ret ?_,fr⟩
   rw [← hv,pOff];simp [*,jn3,jn2]
theorem st2 (s:List UInt8) (hs:s.length≤400) (h64:e.s.length≤64) (ho:0≤e.off) (hv:.tup [.str (s++(pPage e++pOff e)),.bool true]=v) (hn:h0.next≤h.next) (fr:∀ n,n < h0.next→h.m n=h0.m n) (hm6:h.m n6=some (.cells true (.one 57) (cV e))) (hn6:n6 < h.next∧h0.next≤n6) (hm8:h.m n8=some (.cells true (.one 225) (rowV e.ck))) (hn8:n8 < h.next∧h0.next≤n8):Jz38 (Ends v h0) (.str s) (.ptr (some ⟨n6,.one 57,[]⟩)) (.ptr (some ⟨n8,.one 225,[]⟩)) h:=by
 have k1:=ok.kind;have k2:=ok.a;have k3:=ok.b;have k4:=ok.ck;have k5:=ok.txn;have k6:=ok.page;have k7:=ok.off;have k8:=ok.s;have k9:=ok.keep
 rw [Jz38_eq]
 refine bindS_mk (fa_mk (by kernel_rfl)) ?_
 refine bindV_mk (ld_mk hm8 (by kernel_rfl) rfl) ?_
 refine i_split (fun c1=>?_) (fun c1=>?_)
 · try rw [c1]
   refine bindS_mk (fa_mk (by kernel_rfl)) ?_
   refine bindV_mk (ld_mk hm6 (by kernel_rfl) rfl) ?_
   refine bindS_mk (cv_wr (d:=49) (k:=.u64) (by kernel_rfl) (wr_u64 (by omega) (by omega))) ?_
   refine callS (numN e.page (by omega) _) ?_
   refine bindE (bs2_at (e:=9) (by kernel_rfl) z9 (by kernel_rfl) (by kernel_rfl)) fun h2 u2=>?_
   have n2:=u2.next
   have fFR_2:=fun k (hk:k < h0.next)=>(u2.other k (by omega)).trans (fr k hk)
   have fX6_2:=(u2.other _ (by omega)).trans hm6
   have fX8_2:=(u2.other _ (by omega)).trans hm8
   have f2_2:=u2.at_
   refine callS (wordsP _ _ [s,dec e.page] _ f2_2 (by simp) (by simp) (by rw [jn2];have l2:=dec_len20 (n:=e.page) (by omega);simp;omega)) ?_
   refine Meet.of (st3 e ok _ (by first | omega | (rw [jn2];have l2:=dec_len20 (n:=e.page) (by omega);simp;omega)) h64 ho ?_ (by omega) fFR_2 fX6_2 (by omega) fX8_2 (by omega))
   rw [← hv,pPage];simp [*,jn2]
 · try rw [c1]
   refine Meet.of (st3 e ok _ (by first | omega | (rw [jn2];have l2:=dec_len20 (n:=e.page) (by omega);simp;omega)) h64 ho ?_ (by omega) fr hm6 (by omega) hm8 (by omega))
   rw [← hv,pPage];simp [*,jn2]
theorem st1 (s:List UInt8) (hs:s.length≤100) (h64:e.s.length≤64) (ho:0≤e.off) (ha:0≤e.a) (hv:.tup [.str (s++32 :: (dec e.a.toNat++32 :: (nameOf e.ck++(pTxn e++(pPage e++pOff e))))),.bool true]=v) (hn:h0.next≤h.next) (fr:∀ n,n < h0.next→h.m n=h0.m n) (hm1:h.m n1=some (.cells true (.one 73) (evV e k))) (hn1:n1 < h.next∧h0.next≤n1) (hm6:h.m n6=some (.cells true (.one 57) (cV e))) (hn6:n6 < h.next∧h0.next≤n6) (hm8:h.m n8=some (.cells true (.one 225) (rowV e.ck))) (hn8:n8 < h.next∧h0.next≤n8):Jz37 (Ends v h0) (.ptr (some ⟨n1,.one 73,[]⟩)) (.str s) (.ptr (some ⟨n6,.one 57,[]⟩)) (.ptr (some ⟨n8,.one 225,[]⟩)) h:=by
 have k1:=ok.kind;have k2:=ok.a;have k3:=ok.b;have k4:=ok.ck;have k5:=ok.txn;have k6:=ok.page;have k7:=ok.off;have k8:=ok.s;have k9:=ok.keep
 rw [Jz37_eq]
 refine bindSO_mk (fa_mk (by kernel_rfl)) ?_
 refine bindVO_mk (ld_mk hm1 (by kernel_rfl) rfl) ?_
 refine bindSO_mk (cv_wr (d:=49) (k:=.u64) (by kernel_rfl) (wr_u64 (by omega) (by omega))) ?_
 refine ⟨_,numP _ (by omega) (by omega) _,?_⟩
 refine bindSO_mk (fa_mk (by kernel_rfl)) ?_
 refine bindVO_mk (ld_mk hm8 (by kernel_rfl) rfl) ?_
 refine bindE (bs3_at (e:=9) (by kernel_rfl) z9 (by kernel_rfl) (by kernel_rfl) (by kernel_rfl)) fun h1 u1=>?_
 have n1:=u1.next
 have fFR_1:=fun k (hk:k < h0.next)=>(u1.other k (by omega)).trans (fr k hk)
 have fX1_1:=(u1.other _ (by omega)).trans hm1
 have fX6_1:=(u1.other _ (by omega)).trans hm6
 have fX8_1:=(u1.other _ (by omega)).trans hm8
 have f1_1:=u1.at_
 refine ⟨_,wordsP _ _ [s,dec e.a.toNat,nameOf e.ck] _ f1_1 (by simp) (by simp) (by rw [jn3];have l1:=name_len e.ck;have l2:=dec_len20 (n:=e.a.toNat) (by omega);simp;omega),?_⟩
 refine bindS_mk (fa_mk (by kernel_rfl)) ?_
 refine bindV_mk (ld_mk fX8_1 (by kernel_rfl) rfl) ?_
 refine i_split (fun c2=>?_) (fun c2=>?_)
 · try rw [c2]
   refine bindS_mk (fa_mk (by kernel_rfl)) ?_
   refine bindV_mk (ld_mk fX6_1 (by kernel_rfl) rfl) ?_
   refine callS (numN e.txn (by omega) _) ?_
   refine bindE (bs2_at (e:=9) (by kernel_rfl) z9 (by kernel_rfl) (by kernel_rfl)) fun h3 u3=>?_
   have n3:=u3.next
   have fFR_3:=fun k (hk:k < h0.next)=>(u3.other k (by omega)).trans (fFR_1 k hk)
   have fX1_3:=(u3.other _ (by omega)).trans fX1_1
   have fX6_3:=(u3.other _ (by omega)).trans fX6_1
   have fX8_3:=(u3.other _ (by omega)).trans fX8_1
   have f1_3:=(u3.other _ (by omega)).trans f1_1
   have f3_3:=u3.at_
   refine callS (wordsP _ _ [jn [s,dec e.a.toNat,nameOf e.ck],dec e.txn] _ f3_3 (by simp) (by simp) (by rw [jn2,jn3];have l1:=name_len e.ck;have l2:=dec_len20 (n:=e.a.toNat) (by omega);have l3:=dec_len20 (n:=e.txn) (by omega);simp;omega)) ?_
   refine Meet.of (st2 e ok _ (by simp only [jn2,jn3];have l1:=name_len e.ck;have l2:=dec_len20 (n:=e.a.toNat) (by omega);have l3:=dec_len20 (n:=e.txn) (by omega);simp;omega) h64 ho ?_ (by omega) fFR_3 fX6_3 (by omega) fX8_3 (by omega))
   rw [← hv,pTxn];simp [*,jn2,jn3]
 · try rw [c2]
   refine Meet.of (st2 e ok _ (by simp only [jn2,jn3];have l1:=name_len e.ck;have l2:=dec_len20 (n:=e.a.toNat) (by omega);have l3:=dec_len20 (n:=e.txn) (by omega);simp;omega) h64 ho ?_ (by omega) fFR_1 fX6_1 (by omega) fX8_1 (by omega))
   rw [← hv,pTxn];simp [*,jn2,jn3]
theorem g20 (hA:e.kind=0∧0≤e.a∧e.a < 10∧e.b=0∧e.keep.length=0∧e.ck < 8∧e.txn < 2147483648∧0≤e.off∧e.off < 2147483648∧e.s.length≤64) (hT:¬ (1≤e.ck∧e.ck≤4)→e.txn=0) (hP:¬ (e.ck=1∨e.ck=2)→e.page=0) (hO:e.ck≠2→e.off=0) (hv:e.lineV=v) (hn:h0.next≤h.next) (fr:∀ n,n < h0.next→h.m n=h0.m n) (hm1:h.m n1=some (.cells true (.one 73) (evV e k))) (hn1:n1 < h.next∧h0.next≤n1) (hm6:h.m n6=some (.cells true (.one 57) (cV e))) (hn6:n6 < h.next∧h0.next≤n6) (hm8:h.m n8=some (.cells true (.one 225) (rowV e.ck))) (hn8:n8 < h.next∧h0.next≤n8):Gzs (Ends v h0) (.ptr (some ⟨n1,.one 73,[]⟩)) (.str (kindName 0)) (.ptr (some ⟨n6,.one 57,[]⟩)) (.ptr (some ⟨n8,.one 225,[]⟩)) (.bool false) (.bool (!fOff e.ck)) h:=by
 have k1:=ok.kind;have k2:=ok.a;have k3:=ok.b;have k4:=ok.ck;have k5:=ok.txn;have k6:=ok.page;have k7:=ok.off;have k8:=ok.s;have k9:=ok.keep
 rw [Gzs_eq]
 refine g_split_t (fun c1=>?_) (fun c1=>?_)
 · try rw [c1]
   try simp [fTxn,fPage,fOff] at c1
   refine bindS_mk (fa_mk (by kernel_rfl)) ?_
   refine bindV_mk (ld_mk hm6 (by kernel_rfl) rfl) ?_
   refine bindS_mk (t_neq) ?_
   refine Meet.of (cast_p (Gzt_eq _ _ _ _ _ _ _ _ _) ?_)
   refine g_ff ?_
   refine bindV_mk p_t ?_
   refine Meet.of (cast_p (Gzu_eq _ _ _ _ _ _ _ _) ?_)
   refine bindV_mk p_f ?_
   refine Meet.of (cast_p (Jz36_eq _ _ _ _ _ _ _) ?_)
   refine i_split (fun c2=>?_) (fun c2=>?_)
   · try rw [c2]
     have l2:e.s.length≠0:=fun h=>absurd (List.length_eq_zero_iff.1 h) (by simpa using c2)
     exact ⟨congrArg AEnd.ret ((hv▸line_no (by unfold Ev.fine;omega))),fr⟩
   · try rw [c2]
     have l2:e.s.length=0:=List.length_eq_zero_iff.2 (by simpa using c2)
     refine Meet.of (st1 e ok (kindName 0) (by decide) (by omega) (by omega) (by omega) ?_ (by omega) fr hm1 (by omega) hm6 (by omega) hm8 (by omega))
     exact (line_yes (e:=e) (by unfold Ev.fine;omega) (by rw [Ev.txt,if_pos (by omega)];rfl)).trans hv
 · try rw [c1]
   try simp [fTxn,fPage,fOff] at c1
   refine Meet.of (cast_p (Gzt_eq _ _ _ _ _ _ _ _ _) ?_)
   refine g_ff ?_
   refine bindV_mk p_f ?_
   refine Meet.of (cast_p (Gzu_eq _ _ _ _ _ _ _ _) ?_)
   refine bindV_mk p_f ?_
   refine Meet.of (cast_p (Jz36_eq _ _ _ _ _ _ _) ?_)
   refine i_f ?_
   refine Meet.of (st1 e ok (kindName 0) (by decide) (by omega) (by omega) (by omega) ?_ (by omega) fr hm1 (by omega) hm6 (by omega) hm8 (by omega))
   exact (line_yes (e:=e) (by unfold Ev.fine;omega) (by rw [Ev.txt,if_pos (by omega)];rfl)).trans hv
theorem g16 (hA:e.kind=0∧0≤e.a∧e.a < 10∧e.b=0∧e.keep.length=0∧e.ck < 8∧e.txn < 2147483648∧0≤e.off∧e.off < 2147483648∧e.s.length≤64) (hT:¬ (1≤e.ck∧e.ck≤4)→e.txn=0) (hP:¬ (e.ck=1∨e.ck=2)→e.page=0) (hv:e.lineV=v) (hn:h0.next≤h.next) (fr:∀ n,n < h0.next→h.m n=h0.m n) (hm1:h.m n1=some (.cells true (.one 73) (evV e k))) (hn1:n1 < h.next∧h0.next≤n1) (hm6:h.m n6=some (.cells true (.one 57) (cV e))) (hn6:n6 < h.next∧h0.next≤n6) (hm8:h.m n8=some (.cells true (.one 225) (rowV e.ck))) (hn8:n8 < h.next∧h0.next≤n8):Gzp (Ends v h0) (.ptr (some ⟨n1,.one 73,[]⟩)) (.str (kindName 0)) (.ptr (some ⟨n6,.one 57,[]⟩)) (.ptr (some ⟨n8,.one 225,[]⟩)) (.bool false) (.bool (!fOff e.ck)) h:=by
 have k1:=ok.kind;have k2:=ok.a;have k3:=ok.b;have k4:=ok.ck;have k5:=ok.txn;have k6:=ok.page;have k7:=ok.off;have k8:=ok.s;have k9:=ok.keep
 rw [Gzp_eq]
 refine g_split_t (fun c1=>?_) (fun c1=>?_)
 · try rw [c1]
   try simp [fTxn,fPage,fOff] at c1
   refine bindS_mk (fa_mk (by kernel_rfl)) ?_
   refine bindV_mk (ld_mk hm6 (by kernel_rfl) rfl) ?_
   refine bindS_mk (b_gtr) ?_
   refine Meet.of (cast_p (Gzq_eq _ _ _ _ _ _ _ _ _) ?_)
   refine g_ff ?_
   refine bindV_mk p_t ?_
   refine Meet.of (cast_p (Gzr_eq _ _ _ _ _ _ _ _) ?_)
   refine bindV_mk p_f ?_
   refine g_split_f (fun c2=>?_) (fun c2=>?_)
   · try rw [c2]
     replace c2:=of_decide_eq_false c2
     refine bindS_mk (fa_mk (by kernel_rfl)) ?_
     refine bindV_mk (ld_mk hm8 (by kernel_rfl) rfl) ?_
     refine bindS_mk (u_not) ?_
     exact Meet.of (g20 e ok hA hT hP (by omega) hv (by omega) fr hm1 (by omega) hm6 (by omega) hm8 (by omega))
   · try rw [c2]
     replace c2:=of_decide_eq_true c2
     refine Meet.of (cast_p (Gzs_eq _ _ _ _ _ _ _ _) ?_)
     refine g_hole ?_
     refine Meet.of (cast_p (Gzt_eq _ _ _ _ _ _ _ _ _) ?_)
     refine g_tf ?_
     refine Meet.of (cast_p (Gzu_eq _ _ _ _ _ _ _ _) ?_)
     refine bindV_mk p_t ?_
     refine Meet.of (cast_p (Jz36_eq _ _ _ _ _ _ _) ?_)
     refine i_t ?_
     exact ⟨congrArg AEnd.ret ((hv▸line_no (by unfold Ev.fine;omega))),fr⟩
 · try rw [c1]
   try simp [fTxn,fPage,fOff] at c1
   refine Meet.of (cast_p (Gzq_eq _ _ _ _ _ _ _ _ _) ?_)
   refine g_ff ?_
   refine bindV_mk p_f ?_
   refine Meet.of (cast_p (Gzr_eq _ _ _ _ _ _ _ _) ?_)
   refine bindV_mk p_f ?_
   refine g_ff ?_
   refine bindS_mk (fa_mk (by kernel_rfl)) ?_
   refine bindV_mk (ld_mk hm8 (by kernel_rfl) rfl) ?_
   refine bindS_mk (u_not) ?_
   exact Meet.of (g20 e ok hA hT hP (by omega) hv (by omega) fr hm1 (by omega) hm6 (by omega) hm8 (by omega))
theorem g12 (hA:e.kind=0∧0≤e.a∧e.a < 10∧e.b=0∧e.keep.length=0∧e.ck < 8∧e.txn < 2147483648∧0≤e.off∧e.off < 2147483648∧e.s.length≤64) (hT:¬ (1≤e.ck∧e.ck≤4)→e.txn=0) (hv:e.lineV=v) (hn:h0.next≤h.next) (fr:∀ n,n < h0.next→h.m n=h0.m n) (hm1:h.m n1=some (.cells true (.one 73) (evV e k))) (hn1:n1 < h.next∧h0.next≤n1) (hm6:h.m n6=some (.cells true (.one 57) (cV e))) (hn6:n6 < h.next∧h0.next≤n6) (hm8:h.m n8=some (.cells true (.one 225) (rowV e.ck))) (hn8:n8 < h.next∧h0.next≤n8):Gzm (Ends v h0) (.ptr (some ⟨n1,.one 73,[]⟩)) (.str (kindName 0)) (.ptr (some ⟨n6,.one 57,[]⟩)) (.ptr (some ⟨n8,.one 225,[]⟩)) (.bool false) (.bool (!fPage e.ck)) h:=by
 have k1:=ok.kind;have k2:=ok.a;have k3:=ok.b;have k4:=ok.ck;have k5:=ok.txn;have k6:=ok.page;have k7:=ok.off;have k8:=ok.s;have k9:=ok.keep
 rw [Gzm_eq]
 refine g_split_t (fun c1=>?_) (fun c1=>?_)
 · try rw [c1]
   try simp [fTxn,fPage,fOff] at c1
   refine bindS_mk (fa_mk (by kernel_rfl)) ?_
   refine bindV_mk (ld_mk hm6 (by kernel_rfl) rfl) ?_
   refine bindS_mk (b_gtr) ?_
   refine Meet.of (cast_p (Gzn_eq _ _ _ _ _ _ _ _ _) ?_)
   refine g_ff ?_
   refine bindV_mk p_t ?_
   refine Meet.of (cast_p (Gzo_eq _ _ _ _ _ _ _ _) ?_)
   refine bindV_mk p_f ?_
   refine g_split_f (fun c2=>?_) (fun c2=>?_)
   · try rw [c2]
     replace c2:=of_decide_eq_false c2
     refine bindS_mk (fa_mk (by kernel_rfl)) ?_
     refine bindV_mk (ld_mk hm8 (by kernel_rfl) rfl) ?_
     refine bindS_mk (u_not) ?_
     exact Meet.of (g16 e ok hA hT (by omega) hv (by omega) fr hm1 (by omega) hm6 (by omega) hm8 (by omega))
   · try rw [c2]
     replace c2:=of_decide_eq_true c2
     refine Meet.of (cast_p (Gzp_eq _ _ _ _ _ _ _ _) ?_)
     refine g_hole ?_
     refine Meet.of (cast_p (Gzq_eq _ _ _ _ _ _ _ _ _) ?_)
     refine g_tf ?_
     refine Meet.of (cast_p (Gzr_eq _ _ _ _ _ _ _ _) ?_)
     refine bindV_mk p_t ?_
     refine g_tf ?_
     refine Meet.of (cast_p (Gzs_eq _ _ _ _ _ _ _ _) ?_)
     refine g_hole ?_
     refine Meet.of (cast_p (Gzt_eq _ _ _ _ _ _ _ _ _) ?_)
     refine g_tf ?_
     refine Meet.of (cast_p (Gzu_eq _ _ _ _ _ _ _ _) ?_)
     refine bindV_mk p_t ?_
     refine Meet.of (cast_p (Jz36_eq _ _ _ _ _ _ _) ?_)
     refine i_t ?_
     exact ⟨congrArg AEnd.ret ((hv▸line_no (by unfold Ev.fine;omega))),fr⟩
 · try rw [c1]
   try simp [fTxn,fPage,fOff] at c1
   refine Meet.of (cast_p (Gzn_eq _ _ _ _ _ _ _ _ _) ?_)
   refine g_ff ?_
   refine bindV_mk p_f ?_
   refine Meet.of (cast_p (Gzo_eq _ _ _ _ _ _ _ _) ?_)
   refine bindV_mk p_f ?_
   refine g_ff ?_
   refine bindS_mk (fa_mk (by kernel_rfl)) ?_
   refine bindV_mk (ld_mk hm8 (by kernel_rfl) rfl) ?_
   refine bindS_mk (u_not) ?_
   exact Meet.of (g16 e ok hA hT (by omega) hv (by omega) fr hm1 (by omega) hm6 (by omega) hm8 (by omega))
theorem g8 (hA:e.kind=0∧0≤e.a∧e.a < 10∧e.b=0∧e.keep.length=0∧e.ck < 8∧e.txn < 2147483648∧0≤e.off∧e.off < 2147483648∧e.s.length≤64) (hv:e.lineV=v) (hn:h0.next≤h.next) (fr:∀ n,n < h0.next→h.m n=h0.m n) (hm1:h.m n1=some (.cells true (.one 73) (evV e k))) (hn1:n1 < h.next∧h0.next≤n1) (hm6:h.m n6=some (.cells true (.one 57) (cV e))) (hn6:n6 < h.next∧h0.next≤n6) (hm8:h.m n8=some (.cells true (.one 225) (rowV e.ck))) (hn8:n8 < h.next∧h0.next≤n8):Gzj (Ends v h0) (.ptr (some ⟨n1,.one 73,[]⟩)) (.str (kindName 0)) (.ptr (some ⟨n6,.one 57,[]⟩)) (.ptr (some ⟨n8,.one 225,[]⟩)) (.bool false) (.bool (!fTxn e.ck)) h:=by
 have k1:=ok.kind;have k2:=ok.a;have k3:=ok.b;have k4:=ok.ck;have k5:=ok.txn;have k6:=ok.page;have k7:=ok.off;have k8:=ok.s;have k9:=ok.keep
 rw [Gzj_eq]
 refine g_split_t (fun c1=>?_) (fun c1=>?_)
 · try rw [c1]
   try simp [fTxn,fPage,fOff] at c1
   refine bindS_mk (fa_mk (by kernel_rfl)) ?_
   refine bindV_mk (ld_mk hm6 (by kernel_rfl) rfl) ?_
   refine bindS_mk (b_gtr) ?_
   refine Meet.of (cast_p (Gzk_eq _ _ _ _ _ _ _ _ _) ?_)
   refine g_ff ?_
   refine bindV_mk p_t ?_
   refine Meet.of (cast_p (Gzl_eq _ _ _ _ _ _ _ _) ?_)
   refine bindV_mk p_f ?_
   refine g_split_f (fun c2=>?_) (fun c2=>?_)
   · try rw [c2]
     replace c2:=of_decide_eq_false c2
     refine bindS_mk (fa_mk (by kernel_rfl)) ?_
     refine bindV_mk (ld_mk hm8 (by kernel_rfl) rfl) ?_
     refine bindS_mk (u_not) ?_
     exact Meet.of (g12 e ok hA (by omega) hv (by omega) fr hm1 (by omega) hm6 (by omega) hm8 (by omega))
   · try rw [c2]
     replace c2:=of_decide_eq_true c2
     refine Meet.of (cast_p (Gzm_eq _ _ _ _ _ _ _ _) ?_)
     refine g_hole ?_
     refine Meet.of (cast_p (Gzn_eq _ _ _ _ _ _ _ _ _) ?_)
     refine g_tf ?_
     refine Meet.of (cast_p (Gzo_eq _ _ _ _ _ _ _ _) ?_)
     refine bindV_mk p_t ?_
     refine g_tf ?_
     refine Meet.of (cast_p (Gzp_eq _ _ _ _ _ _ _ _) ?_)
     refine g_hole ?_
     refine Meet.of (cast_p (Gzq_eq _ _ _ _ _ _ _ _ _) ?_)
     refine g_tf ?_
     refine Meet.of (cast_p (Gzr_eq _ _ _ _ _ _ _ _) ?_)
     refine bindV_mk p_t ?_
     refine g_tf ?_
     refine Meet.of (cast_p (Gzs_eq _ _ _ _ _ _ _ _) ?_)
     refine g_hole ?_
     refine Meet.of (cast_p (Gzt_eq _ _ _ _ _ _ _ _ _) ?_)
     refine g_tf ?_
     refine Meet.of (cast_p (Gzu_eq _ _ _ _ _ _ _ _) ?_)
     refine bindV_mk p_t ?_
     refine Meet.of (cast_p (Jz36_eq _ _ _ _ _ _ _) ?_)
     refine i_t ?_
     exact ⟨congrArg AEnd.ret ((hv▸line_no (by unfold Ev.fine;omega))),fr⟩
 · try rw [c1]
   try simp [fTxn,fPage,fOff] at c1
   refine Meet.of (cast_p (Gzk_eq _ _ _ _ _ _ _ _ _) ?_)
   refine g_ff ?_
   refine bindV_mk p_f ?_
   refine Meet.of (cast_p (Gzl_eq _ _ _ _ _ _ _ _) ?_)
   refine bindV_mk p_f ?_
   refine g_ff ?_
   refine bindS_mk (fa_mk (by kernel_rfl)) ?_
   refine bindV_mk (ld_mk hm8 (by kernel_rfl) rfl) ?_
   refine bindS_mk (u_not) ?_
   exact Meet.of (g12 e ok hA (by omega) hv (by omega) fr hm1 (by omega) hm6 (by omega) hm8 (by omega))
end
end Go.Proofs.YtcglbpjpbjaecaaGreat.Sh
namespace Go.Proofs.YtcglbpjpbjaecaaGreat.Sh
open Go Go.Ab Go.RowKit
open Go.Proofs.YtcglbpjpbjaecaaGreat.Ru (Pg okP)
set_option maxRecDepth 10000
theorem z225:zeroV Pg 225=some (.agg [(.str []),(.bool false),(.bool false),(.bool false),(.bool false)]):=by kernel_rfl
theorem zs225:hasShape Pg (.agg [(.str []),(.bool false),(.bool false),(.bool false),(.bool false)]) 225=true:=by kernel_rfl
section
variable (e:Ev) (ok:e.ok) {v:V} {h0:AH} {n1 n6 n8:Nat} {h:AH} {k:V}
include ok
theorem ask (hA:e.kind=0∧0≤e.a∧e.a < 10∧e.b=0∧e.keep.length=0∧e.ck < 8) (hv:e.lineV=v) (hn:h0.next≤h.next) (fr:∀ n,n < h0.next→h.m n=h0.m n) (hm1:h.m n1=some (.cells true (.one 73) (evV e k))) (hn1:n1 < h.next∧h0.next≤n1) (hm6:h.m n6=some (.cells true (.one 57) (cV e))) (hn6:n6 < h.next∧h0.next≤n6) {nC:Nat} (hmC:h.m nC=some (.cells true (.row 225) (.agg callV))) (hnC:nC < h.next):Jz35 (Ends v h0) (.ptr (some ⟨n1,.one 73,[]⟩)) (.str (kindName 0)) (.ptr (some ⟨n6,.one 57,[]⟩)) (.slc (some (⟨nC,.row 225,[]⟩,0)) 8) h:=by
 have k1:=ok.kind;have k2:=ok.a;have k3:=ok.b;have k4:=ok.ck;have k5:=ok.txn;have k6:=ok.page;have k7:=ok.off;have k8:=ok.s;have k9:=ok.keep
 rw [Jz35_eq]
 refine bindS_mk (fa_mk (by kernel_rfl)) ?_
 refine bindV_mk (ld_mk hm6 (by kernel_rfl) rfl) ?_
 refine bindS_mk (ia_slc _ (by kernel_rfl) (by omega) (by omega)) ?_
 refine bindV_mk (ld_mk hmC (by kernel_rfl) (getRow (k:=e.ck) (by omega))) ?_
 refine bindE (al_at z225 zs225) fun h1 u1=>?_
 have n1:=u1.next
 have fFR_1:=fun k (hk:k < h0.next)=>(u1.other k (by omega)).trans (fr k hk)
 have fX1_1:=(u1.other _ (by omega)).trans hm1
 have fX6_1:=(u1.other _ (by omega)).trans hm6
 have fC_1:=(u1.other _ (by omega)).trans hmC
 have f1_1:=u1.at_
 refine bindE (st_at f1_1 (by kernel_rfl) rfl (by kernel_rfl) rfl) fun h2 u2=>?_
 have n2:=u2.next
 have fFR_2:=fun k (hk:k < h0.next)=>(u2.other k (by omega)).trans (fFR_1 k hk)
 have fX1_2:=(u2.other _ (by omega)).trans fX1_1
 have fX6_2:=(u2.other _ (by omega)).trans fX6_1
 have fC_2:=(u2.other _ (by omega)).trans fC_1
 have f1_2:=u2.at_
 refine bindS_mk (fa_mk (by kernel_rfl)) ?_
 refine bindV_mk (ld_mk fX6_2 (by kernel_rfl) rfl) ?_
 refine bindS_mk (b_geq) ?_
 refine g_split_f (fun c3=>?_) (fun c3=>?_)
 · try rw [c3]
   replace c3:=of_decide_eq_false c3
   refine bindS_mk (fa_mk (by kernel_rfl)) ?_
   refine bindV_mk (ld_mk fX6_2 (by kernel_rfl) rfl) ?_
   refine bindS_mk (b_lss) ?_
   refine Meet.of (cast_p (Gzg_eq _ _ _ _ _ _ _ _) ?_)
   refine bindV_mk p_f ?_
   refine g_split_f (fun c4=>?_) (fun c4=>?_)
   · try rw [c4]
     replace c4:=of_decide_eq_false c4
     refine bindS_mk (fa_mk (by kernel_rfl)) ?_
     refine bindV_mk (ld_mk fX6_2 (by kernel_rfl) rfl) ?_
     refine bindS_mk (b_geq) ?_
     refine Meet.of (cast_p (Gzh_eq _ _ _ _ _ _ _ _) ?_)
     refine bindV_mk p_f ?_
     refine g_split_f (fun c5=>?_) (fun c5=>?_)
     · try rw [c5]
       replace c5:=of_decide_eq_false c5
       refine bindS_mk (fa_mk (by kernel_rfl)) ?_
       refine bindV_mk (ld_mk fX6_2 (by kernel_rfl) rfl) ?_
       refine bindV_mk (len_str (by kernel_rfl)) ?_
       refine bindS_mk (b_gtr) ?_
       refine Meet.of (cast_p (Gzi_eq _ _ _ _ _ _ _ _) ?_)
       refine bindV_mk p_f ?_
       refine g_split_f (fun c6=>?_) (fun c6=>?_)
       · try rw [c6]
         replace c6:=of_decide_eq_false c6
         refine bindS_mk (fa_mk (by kernel_rfl)) ?_
         refine bindV_mk (ld_mk f1_2 (by kernel_rfl) rfl) ?_
         refine bindS_mk (u_not) ?_
         exact Meet.of (g8 e ok (by omega) hv (by omega) fFR_2 fX1_2 (by omega) fX6_2 (by omega) f1_2 (by omega))
       · try rw [c6]
         replace c6:=of_decide_eq_true c6
         refine Meet.of (cast_p (Gzj_eq _ _ _ _ _ _ _ _) ?_)
         refine g_hole ?_
         refine Meet.of (cast_p (Gzk_eq _ _ _ _ _ _ _ _ _) ?_)
         refine g_tf ?_
         refine Meet.of (cast_p (Gzl_eq _ _ _ _ _ _ _ _) ?_)
         refine bindV_mk p_t ?_
         refine g_tf ?_
         refine Meet.of (cast_p (Gzm_eq _ _ _ _ _ _ _ _) ?_)
         refine g_hole ?_
         refine Meet.of (cast_p (Gzn_eq _ _ _ _ _ _ _ _ _) ?_)
         refine g_tf ?_
         refine Meet.of (cast_p (Gzo_eq _ _ _ _ _ _ _ _) ?_)
         refine bindV_mk p_t ?_
         refine g_tf ?_
         refine Meet.of (cast_p (Gzp_eq _ _ _ _ _ _ _ _) ?_)
         refine g_hole ?_
         refine Meet.of (cast_p (Gzq_eq _ _ _ _ _ _ _ _ _) ?_)
         refine g_tf ?_
         refine Meet.of (cast_p (Gzr_eq _ _ _ _ _ _ _ _) ?_)
         refine bindV_mk p_t ?_
         refine g_tf ?_
         refine Meet.of (cast_p (Gzs_eq _ _ _ _ _ _ _ _) ?_)
         refine g_hole ?_
         refine Meet.of (cast_p (Gzt_eq _ _ _ _ _ _ _ _ _) ?_)
         refine g_tf ?_
         refine Meet.of (cast_p (Gzu_eq _ _ _ _ _ _ _ _) ?_)
         refine bindV_mk p_t ?_
         refine Meet.of (cast_p (Jz36_eq _ _ _ _ _ _ _) ?_)
         refine i_t ?_
         exact ⟨congrArg AEnd.ret ((hv▸line_no (by unfold Ev.fine;omega))),fFR_2⟩
     · try rw [c5]
       replace c5:=of_decide_eq_true c5
       refine Meet.of (cast_p (Gzi_eq _ _ _ _ _ _ _ _) ?_)
       refine bindV_mk p_t ?_
       refine g_tf ?_
       refine Meet.of (cast_p (Gzj_eq _ _ _ _ _ _ _ _) ?_)
       refine g_hole ?_
       refine Meet.of (cast_p (Gzk_eq _ _ _ _ _ _ _ _ _) ?_)
       refine g_tf ?_
       refine Meet.of (cast_p (Gzl_eq _ _ _ _ _ _ _ _) ?_)
       refine bindV_mk p_t ?_
       refine g_tf ?_
       refine Meet.of (cast_p (Gzm_eq _ _ _ _ _ _ _ _) ?_)
       refine g_hole ?_
       refine Meet.of (cast_p (Gzn_eq _ _ _ _ _ _ _ _ _) ?_)
       refine g_tf ?_
       refine Meet.of (cast_p (Gzo_eq _ _ _ _ _ _ _ _) ?_)
       refine bindV_mk p_t ?_
       refine g_tf ?_
       refine Meet.of (cast_p (Gzp_eq _ _ _ _ _ _ _ _) ?_)
       refine g_hole ?_
       refine Meet.of (cast_p (Gzq_eq _ _ _ _ _ _ _ _ _) ?_)
       refine g_tf ?_
       refine Meet.of (cast_p (Gzr_eq _ _ _ _ _ _ _ _) ?_)
       refine bindV_mk p_t ?_
       refine g_tf ?_
       refine Meet.of (cast_p (Gzs_eq _ _ _ _ _ _ _ _) ?_)
       refine g_hole ?_
       refine Meet.of (cast_p (Gzt_eq _ _ _ _ _ _ _ _ _) ?_)
       refine g_tf ?_
       refine Meet.of (cast_p (Gzu_eq _ _ _ _ _ _ _ _) ?_)
       refine bindV_mk p_t ?_
       refine Meet.of (cast_p (Jz36_eq _ _ _ _ _ _ _) ?_)
       refine i_t ?_
       exact ⟨congrArg AEnd.ret ((hv▸line_no (by unfold Ev.fine;omega))),fFR_2⟩
   · try rw [c4]
     replace c4:=of_decide_eq_true c4
     refine Meet.of (cast_p (Gzh_eq _ _ _ _ _ _ _ _) ?_)
     refine bindV_mk p_t ?_
     refine g_tf ?_
     refine Meet.of (cast_p (Gzi_eq _ _ _ _ _ _ _ _) ?_)
     refine bindV_mk p_t ?_
     refine g_tf ?_
     refine Meet.of (cast_p (Gzj_eq _ _ _ _ _ _ _ _) ?_)
     refine g_hole ?_
     refine Meet.of (cast_p (Gzk_eq _ _ _ _ _ _ _ _ _) ?_)
     refine g_tf ?_
     refine Meet.of (cast_p (Gzl_eq _ _ _ _ _ _ _ _) ?_)
     refine bindV_mk p_t ?_
     refine g_tf ?_
     refine Meet.of (cast_p (Gzm_eq _ _ _ _ _ _ _ _) ?_)
     refine g_hole ?_
     refine Meet.of (cast_p (Gzn_eq _ _ _ _ _ _ _ _ _) ?_)
     refine g_tf ?_
     refine Meet.of (cast_p (Gzo_eq _ _ _ _ _ _ _ _) ?_)
     refine bindV_mk p_t ?_
     refine g_tf ?_
     refine Meet.of (cast_p (Gzp_eq _ _ _ _ _ _ _ _) ?_)
     refine g_hole ?_
     refine Meet.of (cast_p (Gzq_eq _ _ _ _ _ _ _ _ _) ?_)
     refine g_tf ?_
     refine Meet.of (cast_p (Gzr_eq _ _ _ _ _ _ _ _) ?_)
     refine bindV_mk p_t ?_
     refine g_tf ?_
     refine Meet.of (cast_p (Gzs_eq _ _ _ _ _ _ _ _) ?_)
     refine g_hole ?_
     refine Meet.of (cast_p (Gzt_eq _ _ _ _ _ _ _ _ _) ?_)
     refine g_tf ?_
     refine Meet.of (cast_p (Gzu_eq _ _ _ _ _ _ _ _) ?_)
     refine bindV_mk p_t ?_
     refine Meet.of (cast_p (Jz36_eq _ _ _ _ _ _ _) ?_)
     refine i_t ?_
     exact ⟨congrArg AEnd.ret ((hv▸line_no (by unfold Ev.fine;omega))),fFR_2⟩
 · try rw [c3]
   replace c3:=of_decide_eq_true c3
   refine Meet.of (cast_p (Gzg_eq _ _ _ _ _ _ _ _) ?_)
   refine bindV_mk p_t ?_
   refine g_tf ?_
   refine Meet.of (cast_p (Gzh_eq _ _ _ _ _ _ _ _) ?_)
   refine bindV_mk p_t ?_
   refine g_tf ?_
   refine Meet.of (cast_p (Gzi_eq _ _ _ _ _ _ _ _) ?_)
   refine bindV_mk p_t ?_
   refine g_tf ?_
   refine Meet.of (cast_p (Gzj_eq _ _ _ _ _ _ _ _) ?_)
   refine g_hole ?_
   refine Meet.of (cast_p (Gzk_eq _ _ _ _ _ _ _ _ _) ?_)
   refine g_tf ?_
   refine Meet.of (cast_p (Gzl_eq _ _ _ _ _ _ _ _) ?_)
   refine bindV_mk p_t ?_
   refine g_tf ?_
   refine Meet.of (cast_p (Gzm_eq _ _ _ _ _ _ _ _) ?_)
   refine g_hole ?_
   refine Meet.of (cast_p (Gzn_eq _ _ _ _ _ _ _ _ _) ?_)
   refine g_tf ?_
   refine Meet.of (cast_p (Gzo_eq _ _ _ _ _ _ _ _) ?_)
   refine bindV_mk p_t ?_
   refine g_tf ?_
   refine Meet.of (cast_p (Gzp_eq _ _ _ _ _ _ _ _) ?_)
   refine g_hole ?_
   refine Meet.of (cast_p (Gzq_eq _ _ _ _ _ _ _ _ _) ?_)
   refine g_tf ?_
   refine Meet.of (cast_p (Gzr_eq _ _ _ _ _ _ _ _) ?_)
   refine bindV_mk p_t ?_
   refine g_tf ?_
   refine Meet.of (cast_p (Gzs_eq _ _ _ _ _ _ _ _) ?_)
   refine g_hole ?_
   refine Meet.of (cast_p (Gzt_eq _ _ _ _ _ _ _ _ _) ?_)
   refine g_tf ?_
   refine Meet.of (cast_p (Gzu_eq _ _ _ _ _ _ _ _) ?_)
   refine bindV_mk p_t ?_
   refine Meet.of (cast_p (Jz36_eq _ _ _ _ _ _ _) ?_)
   refine i_t ?_
   exact ⟨congrArg AEnd.ret ((hv▸line_no (by unfold Ev.fine;omega))),fFR_2⟩
omit ok in
theorem drop_at' {α:Type} {s:List α} {i:Nat} {b:α} (h:s[i]?=some b):s.drop i=b :: s.drop (i + 1):=by
 obtain ⟨h1,h2⟩:=List.getElem?_eq_some_iff.1 h
 rw [List.drop_eq_getElem_cons h1,h2]
omit ok in
theorem boolsV_get {l:List Bool} {i:Nat} {b:Bool} (h:l[i]?=some b):(boolsV l)[i]?=some (.bool b):=by simp [boolsV,h]
theorem crashL (hk:KeepB h k e.keep) (hl:e.keep.length≤2000) (hn:h0.next≤h.next) (fr:∀ n,n < h0.next→h.m n=h0.m n) (hm1:h.m n1=some (.cells true (.one 73) (evV e k))) (hn1:n1 < h.next∧h0.next≤n1):∀ (j i:Nat) (s:List UInt8) (m:Nat),i≤e.keep.length→e.keep.length - i=j→j < m→s.length≤100 + i→.tup [.str (s++(bitsT (e.keep.drop i)++(if e.keep.length=0 then [45] else []))),.bool true]=v→Lz60 (Ends v h0) m (.ptr (some ⟨n1,.one 73,[]⟩)) (.str s) k (.int .i64 e.keep.length) (.int .i64 i) h:=by
 have k1:=ok.kind;have k2:=ok.a;have k3:=ok.b;have k4:=ok.ck;have k5:=ok.txn;have k6:=ok.page;have k7:=ok.off;have k8:=ok.s;have k9:=ok.keep
 obtain ⟨a,rfl⟩:=hk.shape
 intro j
 induction j with
 | zero =>
   intro i s m hi hj hm hs hv
   obtain ⟨m,rfl⟩:∃ j,m=j + 1:=⟨m - 1,by omega⟩
   rw [Lz60_eq]
   refine bindS_mk (b_lss) ?_
   refine i_split (fun c1=>?_) (fun c1=>?_)
   · try rw [c1]
     replace c1:=of_decide_eq_true c1
     exfalso;omega
   · try rw [c1]
     replace c1:=of_decide_eq_false c1
     refine Meet.of (cast_p (Jz3e_eq _ _ _ _) ?_)
     refine bindS_mk (fa_mk (by kernel_rfl)) ?_
     refine bindV_mk (ld_mk hm1 (by kernel_rfl) rfl) ?_
     refine bindV_mk (len_slc (by kernel_rfl)) ?_
     refine bindS_mk (b_eql) ?_
     refine i_split (fun c2=>?_) (fun c2=>?_)
     · try rw [c2]
       replace c2:=eq_of_beq c2
       refine bindS_mk (t_add (by first | omega | (simp only [List.length_append] at *;omega) | (simp;omega))) ?_
       refine Meet.of (cast_p (Jz3f_eq _ _ _) ?_)
       refine ⟨congrArg AEnd.ret ?_,fr⟩
       rw [← hv,List.drop_of_length_le (by omega)]
       first | rw [if_pos (by omega)] | rw [if_neg (by omega)]
       simp [bitsT]
     · try rw [c2]
       replace c2:=ne_of_beq_false c2
       refine Meet.of (cast_p (Jz3f_eq _ _ _) ?_)
       refine ⟨congrArg AEnd.ret ?_,fr⟩
       rw [← hv,List.drop_of_length_le (by omega)]
       first | rw [if_pos (by omega)] | rw [if_neg (by omega)]
       simp [bitsT]
 | succ j ih =>
   intro i s m hi hj hm hs hv
   obtain ⟨m,rfl⟩:∃ j,m=j + 1:=⟨m - 1,by omega⟩
   have ih:=fun i s m h1 h2 h3 h4 h5=>ih i s m h1 h2 h3 h4 h5
   obtain ⟨b,hb0⟩:∃ b,e.keep[i]?=some b:=⟨e.keep[i]'(by omega),List.getElem?_eq_getElem (by omega)⟩
   have hd:e.keep.drop i=b :: e.keep.drop (i + 1):=drop_at' hb0
   rw [Lz60_eq]
   refine bindS_mk (b_lss) ?_
   refine (show decide (((i:Nat):Int) < ((e.keep.length:Nat):Int))=true from decide_eq_true (by omega))▸i_t ?_
   rcases hk with ⟨_,hk⟩ | ⟨nK,hnK,hke,hmK⟩
   · rw [hk] at hb0;cases hb0
   obtain ⟨rfl,_⟩:=V.slc.injEq ..▸hke
   refine Meet.of ?_
   rw [Jz3c_eq]
   refine bindS_mk (ia_slc _ (by kernel_rfl) (by omega) (by omega)) ?_
   refine bindV_mk (ld_mk hmK (by kernel_rfl) (getV_row (boolsV_get (by rw [show 0 + ((i:Nat):Int).toNat=i by omega];exact hb0)))) ?_
   refine i_split (fun hb2=>?_) (fun hb2=>?_)
   · skip
     refine bindS_mk (t_add (by first | omega | (simp only [List.length_append] at *;omega) | (simp;omega))) ?_
     refine Meet.of (cast_p (Jz3d_eq _ _ _ _ _ _ _ _) ?_)
     first | refine bindS_mk (w_add (by first | exact wrap_i64 (by omega) (by omega) | exact wr_u8 (by omega) (by omega) | exact wr_u16 (by omega) (by omega) | exact wr_u32 (by omega) (by omega) | exact wr_u64 (by omega) (by omega))) ?_ | refine bindS_mk (b_add) ?_
     refine Meet.of ((congrArg (fun x:Int=>Lz60 (Ends v h0) m (.ptr (some ⟨n1,.one 73,[]⟩)) _ _ (.int .i64 e.keep.length) (.int .i64 x) h) (show ((i:Nat):Int) + 1=((i + 1:Nat):Int) by omega)).mpr (ih (i + 1) _ m (by omega) (by omega) (by omega) (by simp;omega) ?_))
     rw [← hv,hd];simp [bitsT,hb2]
   · skip
     refine bindS_mk (t_add (by first | omega | (simp only [List.length_append] at *;omega) | (simp;omega))) ?_
     refine Meet.of (cast_p (Jz3d_eq _ _ _ _ _ _ _ _) ?_)
     first | refine bindS_mk (w_add (by first | exact wrap_i64 (by omega) (by omega) | exact wr_u8 (by omega) (by omega) | exact wr_u16 (by omega) (by omega) | exact wr_u32 (by omega) (by omega) | exact wr_u64 (by omega) (by omega))) ?_ | refine bindS_mk (b_add) ?_
     refine Meet.of ((congrArg (fun x:Int=>Lz60 (Ends v h0) m (.ptr (some ⟨n1,.one 73,[]⟩)) _ _ (.int .i64 e.keep.length) (.int .i64 x) h) (show ((i:Nat):Int) + 1=((i + 1:Nat):Int) by omega)).mpr (ih (i + 1) _ m (by omega) (by omega) (by omega) (by simp;omega) ?_))
     rw [← hv,hd];simp [bitsT,hb2]
end
end Go.Proofs.YtcglbpjpbjaecaaGreat.Sh
namespace Go.Proofs.YtcglbpjpbjaecaaGreat.Sh
open Go Go.Ab Go.RowKit
open Go.Proofs.YtcglbpjpbjaecaaGreat.Ru (Pg okP)
set_option maxRecDepth 10000
theorem z57:zeroV Pg 57=some (.agg [(.int .u8 0),(.int .u64 0),(.int .u16 0),(.int .i64 0),(.str [])]):=by kernel_rfl
theorem zs57:hasShape Pg (.agg [(.int .u8 0),(.int .u64 0),(.int .u16 0),(.int .i64 0),(.str [])]) 57=true:=by kernel_rfl
section
variable (e:Ev) (ok:e.ok) {v:V} {h0:AH} {n1 n6 n8:Nat} {h:AH} {k:V}
include ok
theorem sw (hA:e.kind < 7∧0≤e.a∧e.a < 2147483648∧e.b=0∧(e.kind≠0→e.ck=0∧e.txn=0∧e.page=0∧e.off=0∧e.s.length=0)∧(e.kind≠5→e.keep.length=0)) {s5:List UInt8} (hs5:s5=kindName e.kind) (hk:KeepB h k e.keep) (hv:e.lineV=v) (hn:h0.next≤h.next) (fr:∀ n,n < h0.next→h.m n=h0.m n) (hm1:h.m n1=some (.cells true (.one 73) (evV e k))) (hn1:n1 < h.next∧h0.next≤n1) (hm6:h.m n6=some (.cells true (.one 57) (cV e))) (hn6:n6 < h.next∧h0.next≤n6):Jz33 (Ends v h0) (.ptr (some ⟨n1,.one 73,[]⟩)) (.str s5) (.ptr (some ⟨n6,.one 57,[]⟩)) h:=by
 have k1:=ok.kind;have k2:=ok.a;have k3:=ok.b;have k4:=ok.ck;have k5:=ok.txn;have k6:=ok.page;have k7:=ok.off;have k8:=ok.s;have k9:=ok.keep
 obtain ⟨a,rfl⟩:=hk.shape
 rw [Jz33_eq]
 refine bindS_mk (fa_mk (by kernel_rfl)) ?_
 refine bindV_mk (ld_mk hm1 (by kernel_rfl) rfl) ?_
 refine bindS_mk (b_eql) ?_
 refine i_split (fun c1=>?_) (fun c1=>?_)
 · try rw [c1]
   replace c1:=eq_of_beq c1
   refine callQ (callsP _) fun h2 u2=>?_
   have n2:=u2.next
   have fFR_2:=fun k (hk:k < h0.next)=>(u2.other k (by omega)).trans (fr k hk)
   have fX1_2:=(u2.other _ (by omega)).trans hm1
   have fX6_2:=(u2.other _ (by omega)).trans hm6
   have fC_2:=u2.at_
   refine bindS_mk (fa_mk (by kernel_rfl)) ?_
   refine bindV_mk (ld_mk fX1_2 (by kernel_rfl) rfl) ?_
   refine bindS_mk (b_geq) ?_
   refine g_split_f (fun c3=>?_) (fun c3=>?_)
   · try rw [c3]
     replace c3:=of_decide_eq_false c3
     refine bindS_mk (fa_mk (by kernel_rfl)) ?_
     refine bindV_mk (ld_mk fX6_2 (by kernel_rfl) rfl) ?_
     first | refine bindS_mk (cv_wr (d:=3) (k:=.i64) (by kernel_rfl) (by first | exact wrap_i64 (by omega) (by omega) | exact wr_u8 (by omega) (by omega) | exact wr_u16 (by omega) (by omega) | exact wr_u32 (by omega) (by omega) | exact wr_u64 (by omega) (by omega))) ?_ | refine bindS_mk (cv_int (d:=3) .i64 (by kernel_rfl)) ?_
     refine bindV_mk (len_slc (by kernel_rfl)) ?_
     refine bindS_mk (b_geq) ?_
     refine Meet.of (cast_p (Gzf_eq _ _ _ _ _ _ _ _) ?_)
     refine bindV_mk p_f ?_
     refine Meet.of (cast_p (Jz34_eq _ _ _ _ _ _ _) ?_)
     refine i_split (fun c4=>?_) (fun c4=>?_)
     · try rw [c4]
       replace c4:=of_decide_eq_true c4
       exact ⟨congrArg AEnd.ret (hv▸line_no (by unfold Ev.fine;omega)),fFR_2⟩
     · try rw [c4]
       replace c4:=of_decide_eq_false c4
       have e0:e.kind=0:=by omega
       rw [e0] at hs5;subst hs5
       exact Meet.of (ask e ok (by omega) hv (by omega) fFR_2 fX1_2 (by omega) fX6_2 (by omega) fC_2 (by omega))
   · try rw [c3]
     replace c3:=of_decide_eq_true c3
     refine Meet.of (cast_p (Gzf_eq _ _ _ _ _ _ _ _) ?_)
     refine bindV_mk p_t ?_
     refine Meet.of (cast_p (Jz34_eq _ _ _ _ _ _ _) ?_)
     refine i_t ?_
     exact ⟨congrArg AEnd.ret (hv▸line_no (by unfold Ev.fine;omega)),fFR_2⟩
 · try rw [c1]
   replace c1:=ne_of_beq_false c1
   refine bindS_mk (b_eql) ?_
   refine i_split (fun c5=>?_) (fun c5=>?_)
   · try rw [c5]
     replace c5:=eq_of_beq c5
     refine bindS_mk (fa_mk (by kernel_rfl)) ?_
     refine bindV_mk (ld_mk hm1 (by kernel_rfl) rfl) ?_
     refine bindS_mk (b_neq) ?_
     refine g_split_f (fun c6=>?_) (fun c6=>?_)
     · try rw [c6]
       replace c6:=eq_of_bne_false c6
       refine bindS_mk (fa_mk (by kernel_rfl)) ?_
       refine bindV_mk (ld_mk hm1 (by kernel_rfl) rfl) ?_
       refine bindV_mk (len_slc (by kernel_rfl)) ?_
       refine bindS_mk (b_gtr) ?_
       refine Meet.of (cast_p (Gzv_eq _ _ _ _ _ _) ?_)
       refine bindV_mk p_f ?_
       refine Meet.of (cast_p (Jz3a_eq _ _ _ _ _) ?_)
       refine i_split (fun c7=>?_) (fun c7=>?_)
       · try rw [c7]
         replace c7:=of_decide_eq_true c7
         exact ⟨congrArg AEnd.ret (hv▸line_no (by unfold Ev.fine;omega)),fr⟩
       · try rw [c7]
         replace c7:=of_decide_eq_false c7
         refine Meet.of (cast_p (Jz3b_eq _ _ _ _) ?_)
         refine bindS_mk (t_add (by rw [hs5];have l1:=kindName_len e.kind;simp;omega)) ?_
         refine bindS_mk (fa_mk (by kernel_rfl)) ?_
         refine bindV_mk (ld_mk hm1 (by kernel_rfl) rfl) ?_
         refine bindV_mk (len_slc (by kernel_rfl)) ?_
         have e5:e.kind=5:=by omega
         rw [e5] at hs5;subst hs5
         refine ⟨e.keep.length + 1,Meet.of (crashL e ok hk (by omega) (by omega) fr hm1 (by omega) e.keep.length 0 _ _ (by omega) (by omega) (by omega) (by decide) ?_)⟩
         refine (line_yes (e:=e) (by unfold Ev.fine;omega) ?_).trans hv
         rw [Ev.txt,if_neg (show ¬ e.kind=0 by omega),if_pos e5,List.drop_zero]
         have e6:kindName 5=[99,114,97,115,104]:=rfl
         rw [e6]
         by_cases hz:e.keep.length=0
         · rw [if_pos hz,if_pos hz,List.length_eq_zero_iff.1 hz];rfl
         · rw [if_neg hz,if_neg hz,List.append_nil];rfl
     · try rw [c6]
       replace c6:=ne_of_bne c6
       refine Meet.of (cast_p (Gzv_eq _ _ _ _ _ _) ?_)
       refine bindV_mk p_t ?_
       refine Meet.of (cast_p (Jz3a_eq _ _ _ _ _) ?_)
       refine i_t ?_
       exact ⟨congrArg AEnd.ret (hv▸line_no (by unfold Ev.fine;omega)),fr⟩
   · try rw [c5]
     replace c5:=ne_of_beq_false c5
     refine bindS_mk (fa_mk (by kernel_rfl)) ?_
     refine bindV_mk (ld_mk hm1 (by kernel_rfl) rfl) ?_
     refine bindS_mk (cv_wr (d:=49) (k:=.u64) (by kernel_rfl) (wr_u64 (by omega) (by omega))) ?_
     refine callS (numP _ (by omega) (by omega) _) ?_
     refine bindE (bs2_at (e:=9) (by kernel_rfl) z9 (by kernel_rfl) (by kernel_rfl)) fun h8 u8=>?_
     have n8:=u8.next
     have fFR_8:=fun k (hk:k < h0.next)=>(u8.other k (by omega)).trans (fr k hk)
     have fX1_8:=(u8.other _ (by omega)).trans hm1
     have fX6_8:=(u8.other _ (by omega)).trans hm6
     have f8_8:=u8.at_
     refine callS (wordsP _ _ [s5,dec e.a.toNat] _ f8_8 (by simp) (by simp) (by rw [jn2,hs5];have l1:=kindName_len e.kind;have l2:=dec_len20 (n:=e.a.toNat) (by omega);simp;omega)) ?_
     refine Meet.of (cast_p (Jz3f_eq _ _ _) ?_)
     exact ⟨congrArg AEnd.ret ((line_yes (e:=e) (by unfold Ev.fine;omega) (by rw [Ev.txt,if_neg (by omega),if_neg (by omega),hs5,jn2])).trans hv),fFR_8⟩
omit ok in
theorem lineV_old (e:Ev) (m:Nat→Bool):oldV m e.lineV=true:=rfl
theorem line0 {k:V} (hk:KeepB h0 k e.keep):ACalls Pg 122 [evV e k] h0 (Ends e.lineV h0):=by
 have k1:=ok.kind;have k2:=ok.a;have k3:=ok.b;have k4:=ok.ck;have k5:=ok.txn;have k6:=ok.page;have k7:=ok.off;have k8:=ok.s;have k9:=ok.keep
 obtain ⟨a,rfl⟩:=hk.shape
 obtain ⟨v,hv⟩:∃ v,e.lineV=v:=⟨_,rfl⟩
 rw [hv]
 refine C122 _ _ _ ?_
 refine bindE (new_at (s73 e a _)) fun h1 u1=>?_
 have n1:=u1.next
 have fFR_1:=fun k (hk:k < h0.next)=>(u1.other k (by omega)).trans ((fun n (_:n < h0.next)=>rfl) k hk)
 have f1_1:=u1.at_
 refine callQ (eventsP _) fun h2 u2=>?_
 have n2:=u2.next
 have fFR_2:=fun k (hk:k < h0.next)=>(u2.other k (by omega)).trans (fFR_1 k hk)
 have f1_2:=(u2.other _ (by omega)).trans f1_1
 have fE_2:=u2.at_
 refine bindS_mk (fa_mk (by kernel_rfl)) ?_
 refine bindV_mk (ld_mk f1_2 (by kernel_rfl) rfl) ?_
 first | refine bindS_mk (cv_wr (d:=3) (k:=.i64) (by kernel_rfl) (by first | exact wrap_i64 (by omega) (by omega) | exact wr_u8 (by omega) (by omega) | exact wr_u16 (by omega) (by omega) | exact wr_u32 (by omega) (by omega) | exact wr_u64 (by omega) (by omega))) ?_ | refine bindS_mk (cv_int (d:=3) .i64 (by kernel_rfl)) ?_
 refine bindV_mk (len_slc (by kernel_rfl)) ?_
 refine bindS_mk (b_geq) ?_
 refine g_split_f (fun c3=>?_) (fun c3=>?_)
 · try rw [c3]
   replace c3:=of_decide_eq_false c3
   refine bindS_mk (fa_mk (by kernel_rfl)) ?_
   refine bindV_mk (ld_mk f1_2 (by kernel_rfl) rfl) ?_
   refine bindS_mk (b_lss) ?_
   refine Meet.of (cast_p (Gz8_eq _ _ _ _ _ _) ?_)
   refine bindV_mk p_f ?_
   refine g_split_f (fun c4=>?_) (fun c4=>?_)
   · try rw [c4]
     replace c4:=of_decide_eq_false c4
     refine bindS_mk (fa_mk (by kernel_rfl)) ?_
     refine bindV_mk (ld_mk f1_2 (by kernel_rfl) rfl) ?_
     refine bindS_mk (b_geq) ?_
     refine Meet.of (cast_p (Gz9_eq _ _ _ _ _ _) ?_)
     refine bindV_mk p_f ?_
     refine g_split_f (fun c5=>?_) (fun c5=>?_)
     · try rw [c5]
       replace c5:=of_decide_eq_false c5
       refine bindS_mk (fa_mk (by kernel_rfl)) ?_
       refine bindV_mk (ld_mk f1_2 (by kernel_rfl) rfl) ?_
       refine bindS_mk (b_neq) ?_
       refine Meet.of (cast_p (Gza_eq _ _ _ _ _ _) ?_)
       refine bindV_mk p_f ?_
       refine Meet.of (cast_p (Jz30_eq _ _ _ _ _) ?_)
       refine i_split (fun c6=>?_) (fun c6=>?_)
       · try rw [c6]
         replace c6:=ne_of_bne c6
         exact ⟨congrArg AEnd.ret (hv▸line_no (by unfold Ev.fine;omega)),fFR_2⟩
       · try rw [c6]
         replace c6:=eq_of_bne_false c6
         refine Meet.of (cast_p (Jz31_eq _ _ _ _) ?_)
         refine bindS_mk (fa_mk (by kernel_rfl)) ?_
         refine bindV_mk (ld_mk f1_2 (by kernel_rfl) rfl) ?_
         refine bindS_mk (ia_slc _ (by kernel_rfl) (by omega) (by omega)) ?_
         refine bindV_mk (ld_mk fE_2 (by kernel_rfl) (getKind (k:=e.kind) (by omega))) ?_
         refine bindS_mk (fa_mk (by kernel_rfl)) ?_
         refine bindV_mk (ld_mk f1_2 (by kernel_rfl) rfl) ?_
         refine bindE (al_at z57 zs57) fun h7 u7=>?_
         have n7:=u7.next
         have fFR_7:=fun k (hk:k < h0.next)=>(u7.other k (by omega)).trans (fFR_2 k hk)
         have f1_7:=(u7.other _ (by omega)).trans f1_2
         have fE_7:=(u7.other _ (by omega)).trans fE_2
         have f7_7:=u7.at_
         refine bindE (st_at f7_7 (by kernel_rfl) rfl (s57 e) rfl) fun h8 u8=>?_
         have n8:=u8.next
         have fFR_8:=fun k (hk:k < h0.next)=>(u8.other k (by omega)).trans (fFR_7 k hk)
         have f1_8:=(u8.other _ (by omega)).trans f1_7
         have fE_8:=(u8.other _ (by omega)).trans fE_7
         have f7_8:=u8.at_
         refine bindS_mk (fa_mk (by kernel_rfl)) ?_
         refine bindV_mk (ld_mk f1_8 (by kernel_rfl) rfl) ?_
         refine bindS_mk (b_neq) ?_
         refine g_split_t (fun c9=>?_) (fun c9=>?_)
         · try rw [c9]
           replace c9:=ne_of_bne c9
           refine bindV_mk (ld_mk f7_8 (by kernel_rfl) rfl) ?_
           refine bindS_mk (build57) ?_
           refine bindS_mk (ne57 e _) ?_
           refine Meet.of (cast_p (Gzb_eq _ _ _ _ _ _ _) ?_)
           refine bindV_mk p_t ?_
           refine g_split_f (fun c10=>?_) (fun c10=>?_)
           · try rw [c10]
             have l10:(e.ck=0∧e.txn=0∧e.page=0∧e.off=0∧e.s.length=0):=of_decide_eq_true (by simpa only [Bool.not_eq_false'] using c10)
             refine bindS_mk (fa_mk (by kernel_rfl)) ?_
             refine bindV_mk (ld_mk f1_8 (by kernel_rfl) rfl) ?_
             refine bindS_mk (b_neq) ?_
             refine Meet.of (cast_p (Gzc_eq _ _ _ _ _ _ _) ?_)
             refine g_split_t (fun c11=>?_) (fun c11=>?_)
             · try rw [c11]
               replace c11:=ne_of_bne c11
               refine bindS_mk (fa_mk (by kernel_rfl)) ?_
               refine bindV_mk (ld_mk f1_8 (by kernel_rfl) rfl) ?_
               refine bindV_mk (len_slc (by kernel_rfl)) ?_
               refine bindS_mk (b_gtr) ?_
               refine Meet.of (cast_p (Gzd_eq _ _ _ _ _ _ _ _) ?_)
               refine g_ff ?_
               refine bindV_mk p_t ?_
               refine Meet.of (cast_p (Gze_eq _ _ _ _ _ _ _) ?_)
               refine bindV_mk p_f ?_
               refine Meet.of (cast_p (Jz32_eq _ _ _ _ _ _) ?_)
               refine i_split (fun c12=>?_) (fun c12=>?_)
               · try rw [c12]
                 replace c12:=of_decide_eq_true c12
                 exact ⟨congrArg AEnd.ret (hv▸line_no (by unfold Ev.fine;omega)),fFR_8⟩
               · try rw [c12]
                 replace c12:=of_decide_eq_false c12
                 exact Meet.of (sw e ok (by omega) rfl (hk.keep (by omega) (fun n hn=>fFR_8 n hn)) hv (by omega) fFR_8 f1_8 (by omega) f7_8 (by omega))
             · try rw [c11]
               replace c11:=eq_of_bne_false c11
               refine Meet.of (cast_p (Gzd_eq _ _ _ _ _ _ _ _) ?_)
               refine g_ff ?_
               refine bindV_mk p_f ?_
               refine Meet.of (cast_p (Gze_eq _ _ _ _ _ _ _) ?_)
               refine bindV_mk p_f ?_
               refine Meet.of (cast_p (Jz32_eq _ _ _ _ _ _) ?_)
               refine i_f ?_
               exact Meet.of (sw e ok (by omega) rfl (hk.keep (by omega) (fun n hn=>fFR_8 n hn)) hv (by omega) fFR_8 f1_8 (by omega) f7_8 (by omega))
           · try rw [c10]
             have l10:¬ (e.ck=0∧e.txn=0∧e.page=0∧e.off=0∧e.s.length=0):=of_decide_eq_false (by simpa only [Bool.not_eq_true'] using c10)
             refine Meet.of (cast_p (Gzc_eq _ _ _ _ _ _ _) ?_)
             refine g_hole ?_
             refine Meet.of (cast_p (Gzd_eq _ _ _ _ _ _ _ _) ?_)
             refine g_tf ?_
             refine Meet.of (cast_p (Gze_eq _ _ _ _ _ _ _) ?_)
             refine bindV_mk p_t ?_
             refine Meet.of (cast_p (Jz32_eq _ _ _ _ _ _) ?_)
             refine i_t ?_
             exact ⟨congrArg AEnd.ret (hv▸line_no (by unfold Ev.fine;omega)),fFR_8⟩
         · try rw [c9]
           replace c9:=eq_of_bne_false c9
           refine Meet.of (cast_p (Gzb_eq _ _ _ _ _ _ _) ?_)
           refine bindV_mk p_f ?_
           refine g_ff ?_
           refine bindS_mk (fa_mk (by kernel_rfl)) ?_
           refine bindV_mk (ld_mk f1_8 (by kernel_rfl) rfl) ?_
           refine bindS_mk (b_neq) ?_
           refine Meet.of (cast_p (Gzc_eq _ _ _ _ _ _ _) ?_)
           refine g_split_t (fun c13=>?_) (fun c13=>?_)
           · try rw [c13]
             replace c13:=ne_of_bne c13
             refine bindS_mk (fa_mk (by kernel_rfl)) ?_
             refine bindV_mk (ld_mk f1_8 (by kernel_rfl) rfl) ?_
             refine bindV_mk (len_slc (by kernel_rfl)) ?_
             refine bindS_mk (b_gtr) ?_
             refine Meet.of (cast_p (Gzd_eq _ _ _ _ _ _ _ _) ?_)
             refine g_ff ?_
             refine bindV_mk p_t ?_
             refine Meet.of (cast_p (Gze_eq _ _ _ _ _ _ _) ?_)
             refine bindV_mk p_f ?_
             refine Meet.of (cast_p (Jz32_eq _ _ _ _ _ _) ?_)
             refine i_split (fun c14=>?_) (fun c14=>?_)
             · try rw [c14]
               replace c14:=of_decide_eq_true c14
               exact ⟨congrArg AEnd.ret (hv▸line_no (by unfold Ev.fine;omega)),fFR_8⟩
             · try rw [c14]
               replace c14:=of_decide_eq_false c14
               exact Meet.of (sw e ok (by omega) rfl (hk.keep (by omega) (fun n hn=>fFR_8 n hn)) hv (by omega) fFR_8 f1_8 (by omega) f7_8 (by omega))
           · try rw [c13]
             replace c13:=eq_of_bne_false c13
             refine Meet.of (cast_p (Gzd_eq _ _ _ _ _ _ _ _) ?_)
             refine g_ff ?_
             refine bindV_mk p_f ?_
             refine Meet.of (cast_p (Gze_eq _ _ _ _ _ _ _) ?_)
             refine bindV_mk p_f ?_
             refine Meet.of (cast_p (Jz32_eq _ _ _ _ _ _) ?_)
             refine i_f ?_
             exact Meet.of (sw e ok (by omega) rfl (hk.keep (by omega) (fun n hn=>fFR_8 n hn)) hv (by omega) fFR_8 f1_8 (by omega) f7_8 (by omega))
     · try rw [c5]
       replace c5:=of_decide_eq_true c5
       refine Meet.of (cast_p (Gza_eq _ _ _ _ _ _) ?_)
       refine bindV_mk p_t ?_
       refine Meet.of (cast_p (Jz30_eq _ _ _ _ _) ?_)
       refine i_t ?_
       exact ⟨congrArg AEnd.ret (hv▸line_no (by unfold Ev.fine;omega)),fFR_2⟩
   · try rw [c4]
     replace c4:=of_decide_eq_true c4
     refine Meet.of (cast_p (Gz9_eq _ _ _ _ _ _) ?_)
     refine bindV_mk p_t ?_
     refine g_tf ?_
     refine Meet.of (cast_p (Gza_eq _ _ _ _ _ _) ?_)
     refine bindV_mk p_t ?_
     refine Meet.of (cast_p (Jz30_eq _ _ _ _ _) ?_)
     refine i_t ?_
     exact ⟨congrArg AEnd.ret (hv▸line_no (by unfold Ev.fine;omega)),fFR_2⟩
 · try rw [c3]
   replace c3:=of_decide_eq_true c3
   refine Meet.of (cast_p (Gz8_eq _ _ _ _ _ _) ?_)
   refine bindV_mk p_t ?_
   refine g_tf ?_
   refine Meet.of (cast_p (Gz9_eq _ _ _ _ _ _) ?_)
   refine bindV_mk p_t ?_
   refine g_tf ?_
   refine Meet.of (cast_p (Gza_eq _ _ _ _ _ _) ?_)
   refine bindV_mk p_t ?_
   refine Meet.of (cast_p (Jz30_eq _ _ _ _ _) ?_)
   refine i_t ?_
   exact ⟨congrArg AEnd.ret (hv▸line_no (by unfold Ev.fine;omega)),fFR_2⟩
theorem lineP {k:V} (hk:KeepB h0 k e.keep):ACalls Pg 122 [evV e k] h0 (pureE e.lineV h0) :=
 acalls_forget (lineV_old e _) (line0 e ok hk)
end
end Go.Proofs.YtcglbpjpbjaecaaGreat.Sh
namespace Go.Proofs.YtcglbpjpbjaecaaGreat.Sh
open Go Go.Ab Go.RowKit
open Go.Proofs.YtcglbpjpbjaecaaGreat.Ru (Pg okP)
open Go.Proofs.YtcglbpjpbjaecaaGreat.Sj (cutAt cutP cut_idx idxB)
set_option maxRecDepth 10000
def ev0:Ev:=⟨0,0,0,0,0,0,0,[],[]⟩
def kindL (w:List UInt8):List (List UInt8)→Nat→Nat→Nat
 | [],_,kd=>kd
 | x :: l,i,kd=>kindL w l (i + 1) (if x=w then i else kd)
def kindIx (w:List UInt8):Nat:=kindL w kindNames 0 0
structure Cs where
 e:Ev
 rest:List UInt8
def rdN (s:List UInt8):Nat:=(readT s).1
def Cs.txn (c:Cs):Cs:=⟨{ c.e with txn:=rdN (cutAt 32 c.rest).1 },(cutAt 32 c.rest).2.1⟩
def Cs.page (c:Cs):Cs:=⟨{ c.e with page:=rdN (cutAt 32 c.rest).1 % 65536 },(cutAt 32 c.rest).2.1⟩
def Cs.off (c:Cs):Cs:=⟨{ c.e with off:=rdN (cutAt 32 c.rest).1,s:=(backT (cutAt 32 c.rest).2.1).1 },(cutAt 32 c.rest).2.1⟩
def callStep (k:Nat) (c:Cs):Cs :=
 let c:Cs:=⟨{ c.e with ck:=k },c.rest⟩
 let c:=if fTxn k then c.txn else c
 let c:=if fPage k then c.page else c
 if fOff k then c.off else c
def callL (name:List UInt8):Nat→Nat→Cs→Cs
 | 0,_,c=>c
 | j + 1,i,c=>callL name j (i + 1) (if nameOf i=name then callStep i c else c)
def evT (s:List UInt8):Ev :=
 let w:=(cutAt 32 s).1
 let rest:=(cutAt 32 s).2.1
 let k:=kindIx w
 if k=0 then (callL (cutAt 32 (cutAt 32 rest).2.1).1 8 0 ⟨{ ev0 with a:=rdN (cutAt 32 rest).1 },(cutAt 32 (cutAt 32 rest).2.1).2.1⟩).e
 else if k=5 then { ev0 with kind:=5,keep:=if rest=[45] then [] else rest.map fun b=>b == 49 }
 else { ev0 with kind:=k,a:=rdN rest }
theorem cutAt_len (c:UInt8):∀ s:List UInt8,(cutAt c s).1.length≤s.length∧(cutAt c s).2.1.length≤s.length
 | []=>by simp [cutAt]
 | b :: s=>by
   have:=cutAt_len c s
   unfold cutAt
   split
   · simp
   · simp;omega
theorem rdL_lt:∀ (s:List UInt8) (n m:Nat),n < 10 ^ m→(rdL n s).1 < 10 ^ (m + s.length)
 | [],n,m,h=>by simpa [rdL] using h
 | c :: s,n,m,h=>by
   unfold rdL
   split
   · exact Nat.pos_of_ne_zero (by simp)
   · rename_i hc
     have:=rdL_lt s (n * 10 + (c.toNat - 48)) (m + 1) (by rw [Nat.pow_succ];omega)
     rw [List.length_cons,show m + (s.length + 1)=m + 1 + s.length by omega]
     exact this
theorem rdN_lt (s:List UInt8):rdN s < 10000000000:=by
 unfold rdN readT
 split
 · decide
 · rename_i h
   have:=rdL_lt s 0 0 (by decide)
   have h2:(10:Nat) ^ (0 + s.length)≤10 ^ 10:=Nat.pow_le_pow_right (by decide) (by omega)
   exact Nat.lt_of_lt_of_le this h2
theorem kindL_le (w:List UInt8):∀ (l:List (List UInt8)) (i kd m:Nat),kd≤m→i + l.length≤m + 1→kindL w l i kd≤m
 | [],i,kd,m,h,_=>h
 | x :: l,i,kd,m,h,h2=>by
   unfold kindL
   simp at h2
   refine kindL_le w l (i + 1) _ m ?_ (by omega)
   split <;> omega
theorem kindIx_lt (w:List UInt8):kindIx w < 7:=by
 have:=kindL_le w kindNames 0 0 6 (by omega) (by decide)
 unfold kindIx;omega
end Go.Proofs.YtcglbpjpbjaecaaGreat.Sh
namespace Go.Proofs.YtcglbpjpbjaecaaGreat.Sh
open Go Go.Ab Go.RowKit
open Go.Proofs.YtcglbpjpbjaecaaGreat.Ru (Pg okP)
open Go.Proofs.YtcglbpjpbjaecaaGreat.Sj (cutAt cutP cut_idx idxB)
set_option maxRecDepth 10000
theorem backT_len (s:List UInt8):(backT s).1.length≤s.length:=by
 unfold backT
 split
 · simp
 · split
   · simp
   · have:=bkL_len s.length s [] (Nat.le_refl _)
     simpa using this
structure Cs.ok (c:Cs):Prop where
 e:c.e.ok
 rest:c.rest.length≤200000
theorem Cs.txn_ok {c:Cs} (h:c.ok):c.txn.ok:=by
 have h1:=rdN_lt (cutAt 32 c.rest).1
 have h2:=cutAt_len 32 c.rest
 exact ⟨⟨h.e.kind,h.e.a,h.e.b,h.e.ck,by show rdN _ < _;omega,h.e.page,h.e.off,h.e.s,h.e.keep⟩,by show (cutAt 32 c.rest).2.1.length≤_;have:=h.rest;omega⟩
theorem Cs.page_ok {c:Cs} (h:c.ok):c.page.ok:=by
 have h2:=cutAt_len 32 c.rest
 exact ⟨⟨h.e.kind,h.e.a,h.e.b,h.e.ck,h.e.txn,by show rdN _ % 65536 < _;omega,h.e.off,h.e.s,h.e.keep⟩,by show (cutAt 32 c.rest).2.1.length≤_;have:=h.rest;omega⟩
theorem Cs.off_ok {c:Cs} (h:c.ok):c.off.ok:=by
 have h1:=rdN_lt (cutAt 32 c.rest).1
 have h2:=cutAt_len 32 c.rest
 have h3:=backT_len (cutAt 32 c.rest).2.1
 have h4:=h.rest
 exact ⟨⟨h.e.kind,h.e.a,h.e.b,h.e.ck,h.e.txn,h.e.page,by show _∧((rdN _:Nat):Int) < _;constructor;(show _≤((rdN _:Nat):Int);omega);omega,by show (backT _).1.length≤_;omega,h.e.keep⟩,by show (cutAt 32 c.rest).2.1.length≤_;omega⟩
theorem callStep_ok {k:Nat} (hk:k < 8) {c:Cs} (h:c.ok):(callStep k c).ok:=by
 have h0:Cs.ok ⟨{ c.e with ck:=k },c.rest⟩:=⟨⟨h.e.kind,h.e.a,h.e.b,by show k < 256;omega,h.e.txn,h.e.page,h.e.off,h.e.s,h.e.keep⟩,h.rest⟩
 unfold callStep
 simp only []
 have h1:(if fTxn k then Cs.txn ⟨{ c.e with ck:=k },c.rest⟩ else ⟨{ c.e with ck:=k },c.rest⟩).ok:=by split;exact Cs.txn_ok h0;exact h0
 have h2:=h1
 generalize (if fTxn k then Cs.txn ⟨{ c.e with ck:=k },c.rest⟩ else ⟨{ c.e with ck:=k },c.rest⟩)=c1 at *
 have h3:(if fPage k then c1.page else c1).ok:=by split;exact Cs.page_ok h1;exact h1
 generalize (if fPage k then c1.page else c1)=c2 at *
 split
 · exact Cs.off_ok h3
 · exact h3
theorem callL_ok (name:List UInt8):∀ (j i:Nat) (c:Cs),i + j≤8→c.ok→(callL name j i c).ok
 | 0,i,c,_,h=>h
 | j + 1,i,c,hi,h=>by
   unfold callL
   refine callL_ok name j (i + 1) _ (by omega) ?_
   split
   · exact callStep_ok (by omega) h
   · exact h
theorem ev0_ok:ev0.ok:=⟨by decide,by decide,by decide,by decide,by decide,by decide,by decide,by decide,by decide⟩
theorem evT_ok (s:List UInt8) (hs:s.length≤200000):(evT s).ok:=by
 have h1:=cutAt_len 32 s
 have h2:=cutAt_len 32 (cutAt 32 s).2.1
 have h3:=cutAt_len 32 (cutAt 32 (cutAt 32 s).2.1).2.1
 have h4:=rdN_lt (cutAt 32 (cutAt 32 s).2.1).1
 have h5:=rdN_lt (cutAt 32 s).2.1
 have h6:=kindIx_lt (cutAt 32 s).1
 unfold evT
 simp only []
 split
 · refine (callL_ok _ 8 0 _ (by omega) ⟨⟨ev0_ok.kind,?_,ev0_ok.b,ev0_ok.ck,ev0_ok.txn,ev0_ok.page,ev0_ok.off,ev0_ok.s,ev0_ok.keep⟩,by show (cutAt 32 _).2.1.length≤_;omega⟩).e
   show _≤((rdN _:Nat):Int)∧((rdN _:Nat):Int) < _
   omega
 · split
   · refine ⟨by show 5 < 256;omega,ev0_ok.a,ev0_ok.b,ev0_ok.ck,ev0_ok.txn,ev0_ok.page,ev0_ok.off,ev0_ok.s,?_⟩
     show List.length (if (cutAt 32 s).2.1=[45] then [] else (cutAt 32 s).2.1.map fun b=>b == 49)≤_
     split
     · simp
     · simp;omega
   · refine ⟨by show kindIx _ < 256;omega,?_,ev0_ok.b,ev0_ok.ck,ev0_ok.txn,ev0_ok.page,ev0_ok.off,ev0_ok.s,ev0_ok.keep⟩
     show _≤((rdN _:Nat):Int)∧((rdN _:Nat):Int) < _
     omega
end Go.Proofs.YtcglbpjpbjaecaaGreat.Sh
namespace Go.Proofs.YtcglbpjpbjaecaaGreat.Sh
open Go Go.Ab Go.RowKit
open Go.Proofs.YtcglbpjpbjaecaaGreat.Ru (Pg okP)
set_option maxRecDepth 100000
noncomputable def B113:Code:=(Tryz.f113.body).getD .skip
def R113:List ResultVar:=[.cell 2 73,.tmp 3]
abbrev N113:Nat:=153
def K113:KT:=(.seq .leaf (.seq .leaf (.seq .leaf (.join (.seq .leaf (.one (.loop (.seq .leaf (.join (.two .leaf .leaf) (.join (.one (.seq .leaf (.seq .leaf (.two .leaf .leaf) [0,2,4,5,6,15,16,17,26]) [0,2,4,5,6,7,15,16,17])) .leaf [0,2,4,5,15,16,17]) [0,2,4,5,15,16,17]) [0,2,4,5,15,16,17,18]) [0,2,4,5,15,16,17])) [0,2,4,5,15,16,17]) (.join (.one (.seq .leaf (.two (.seq .leaf (.seq .leaf (.join (.seq .leaf (.one (.loop (.join (.seq .leaf (.two .leaf .leaf) [0,2,4,5,8,41]) (.join (.one (.join (.reg [[0,2,4,5,8,47,53]]) (.two .leaf .leaf) [0,2,4,5,8,54])) .leaf [0,2,4,5,8]) [0,2,4,5,8]) [0,2,4,5,8])) [0,2,4,5,8]) (.join (.join (.reg [[0,2,4,5,62,66]]) (.two .leaf .leaf) [0,2,4,5,67]) (.join (.join (.reg [[0,2,4,5,77,81]]) (.two .leaf .leaf) [0,2,4,5,82]) (.seq .leaf (.two (.seq .leaf .leaf [0,2,4,5]) .leaf) [0,2,4,5,91]) [0,2,4,5]) [0,2,4,5]) [0,2,4,5]) [0,2,4,5]) [0,2,4,5]) (.join (.reg [[0,2,4,5,104,107],[0,2,4,5,109,113]]) (.two (.seq .leaf (.one (.loop (.join (.seq .leaf (.two .leaf .leaf) [0,2,4,5,9,120]) (.join (.one (.eff [8,9,11])) .leaf [0,2,4,5,9]) [0,2,4,5,9]) [0,2,4,5,9])) [0,2,4,5,9]) (.seq .leaf (.two .leaf .leaf) [0,2,4,5,134])) [0,2,4,5,100])) [0,2,4,5,31])) (.seq .leaf (.join (.reg [[2,146,148,151]]) .leaf [2,3]) [0,2,5,10,11]) [0,2,5]) [0,2,4,5]) [0,2,4,5]) [0,2,4]) [0,2])
def Jz29 (Q:AEnd→AH→Prop) (n:Nat) (x0 x2 x4 x5 x15 x16 x17:V) (h:AH):Prop:=vcAt Pg N113 B113 K113 [1,1,1,0,1,0,0,1,1,1] [n] (vcRet Pg R113 Q) [(0,x0),(2,x2),(4,x4),(5,x5),(15,x15),(16,x16),(17,x17)] h
def Jz28 (Q:AEnd→AH→Prop) (n:Nat) (x0 x2 x4 x5 x15 x16 x17:V) (h:AH):Prop:=vcAt Pg N113 B113 K113 [1,1,1,0,1,0,0,1,1] [n] (vcRet Pg R113 Q) [(0,x0),(2,x2),(4,x4),(5,x5),(15,x15),(16,x16),(17,x17)] h
def Jz2d (Q:AEnd→AH→Prop) (n:Nat) (x0 x2 x4 x5 x8:V) (h:AH):Prop:=vcAt Pg N113 B113 K113 [1,1,1,1,0,0,1,0,1,1,0,1,0,0,1,1] [n] (vcRet Pg R113 Q) [(0,x0),(2,x2),(4,x4),(5,x5),(8,x8)] h
def Jz2c (Q:AEnd→AH→Prop) (n:Nat) (x0 x2 x4 x5 x8 x54:V) (h:AH):Prop:=vcAt Pg N113 B113 K113 [1,1,1,1,0,0,1,0,1,1,0,1,0,0,1,0,0,1] [n] (vcRet Pg R113 Q) [(0,x0),(2,x2),(4,x4),(5,x5),(8,x8),(54,x54)] h
def Gz2 (Q:AEnd→AH→Prop) (n:Nat) (x0 x2 x4 x5 x8 x47 x53:V) (h:AH):Prop:=segAtD Pg N113 B113 K113 [1,1,1,1,0,0,1,0,1,1,0,1,0,0,1,0,0,0] 2 1 10 [n] (vcRet Pg R113 Q) [(0,x0),(2,x2),(4,x4),(5,x5),(8,x8),(47,x47),(53,x53)] h
def Jz2b (Q:AEnd→AH→Prop) (n:Nat) (x0 x2 x4 x5 x8:V) (h:AH):Prop:=vcAt Pg N113 B113 K113 [1,1,1,1,0,0,1,0,1,1,0,1,0,0,1] [n] (vcRet Pg R113 Q) [(0,x0),(2,x2),(4,x4),(5,x5),(8,x8)] h
def Jz2n (Q:AEnd→AH→Prop) (x2 x3:V) (h:AH):Prop:=vcAt Pg N113 B113 K113 [1,1,1,1,1,1,1] [] (vcRet Pg R113 Q) [(2,x2),(3,x3)] h
def Gz7 (Q:AEnd→AH→Prop) (x2 x146 x148 x151:V) (h:AH):Prop:=segAt Pg N113 B113 K113 [1,1,1,1,1,1,0] 2 1 [] (vcRet Pg R113 Q) [(2,x2),(146,x146),(148,x148),(151,x151)] h
def Jz2m (Q:AEnd→AH→Prop) (x0 x2 x5:V) (h:AH):Prop:=vcAt Pg N113 B113 K113 [1,1,1,1,1] [] (vcRet Pg R113 Q) [(0,x0),(2,x2),(5,x5)] h
def Jz2i (Q:AEnd→AH→Prop) (x0 x2 x4 x5:V) (h:AH):Prop:=vcAt Pg N113 B113 K113 [1,1,1,1,0,0,1,0,1,1,1,1,1] [] (vcRet Pg R113 Q) [(0,x0),(2,x2),(4,x4),(5,x5)] h
def Jz2h (Q:AEnd→AH→Prop) (x0 x2 x4 x5 x82:V) (h:AH):Prop:=vcAt Pg N113 B113 K113 [1,1,1,1,0,0,1,0,1,1,1,1,0,1] [] (vcRet Pg R113 Q) [(0,x0),(2,x2),(4,x4),(5,x5),(82,x82)] h
def Gz4 (Q:AEnd→AH→Prop) (x0 x2 x4 x5 x77 x81:V) (h:AH):Prop:=segAt Pg N113 B113 K113 [1,1,1,1,0,0,1,0,1,1,1,1,0,0] 2 1 [] (vcRet Pg R113 Q) [(0,x0),(2,x2),(4,x4),(5,x5),(77,x77),(81,x81)] h
def Jz2g (Q:AEnd→AH→Prop) (x0 x2 x4 x5:V) (h:AH):Prop:=vcAt Pg N113 B113 K113 [1,1,1,1,0,0,1,0,1,1,1,1] [] (vcRet Pg R113 Q) [(0,x0),(2,x2),(4,x4),(5,x5)] h
def Jz2f (Q:AEnd→AH→Prop) (x0 x2 x4 x5 x67:V) (h:AH):Prop:=vcAt Pg N113 B113 K113 [1,1,1,1,0,0,1,0,1,1,1,0,1] [] (vcRet Pg R113 Q) [(0,x0),(2,x2),(4,x4),(5,x5),(67,x67)] h
def Gz3 (Q:AEnd→AH→Prop) (x0 x2 x4 x5 x62 x66:V) (h:AH):Prop:=segAt Pg N113 B113 K113 [1,1,1,1,0,0,1,0,1,1,1,0,0] 2 1 [] (vcRet Pg R113 Q) [(0,x0),(2,x2),(4,x4),(5,x5),(62,x62),(66,x66)] h
def Jz2e (Q:AEnd→AH→Prop) (x0 x2 x4 x5:V) (h:AH):Prop:=vcAt Pg N113 B113 K113 [1,1,1,1,0,0,1,0,1,1,1] [] (vcRet Pg R113 Q) [(0,x0),(2,x2),(4,x4),(5,x5)] h
def Lz5u (Q:AEnd→AH→Prop) (n:Nat) (x0 x2 x4 x5 x8:V) (h:AH):Prop:=loopAt Pg N113 B113 K113 [1,1,1,1,0,0,1,0,1,1,0,1,0] [] n (vcRet Pg R113 Q) [(0,x0),(2,x2),(4,x4),(5,x5),(8,x8)] h
def Jz2l (Q:AEnd→AH→Prop) (n:Nat) (x0 x2 x4 x5 x9:V) (h:AH):Prop:=vcAt Pg N113 B113 K113 [1,1,1,1,0,0,1,1,1,0,1,0,0,1,1] [n] (vcRet Pg R113 Q) [(0,x0),(2,x2),(4,x4),(5,x5),(9,x9)] h
def Jz2k (Q:AEnd→AH→Prop) (n:Nat) (x0 x2 x4 x5 x9:V) (h:AH):Prop:=vcAt Pg N113 B113 K113 [1,1,1,1,0,0,1,1,1,0,1,0,0,1] [n] (vcRet Pg R113 Q) [(0,x0),(2,x2),(4,x4),(5,x5),(9,x9)] h
def Lz5v (Q:AEnd→AH→Prop) (n:Nat) (x0 x2 x4 x5 x9:V) (h:AH):Prop:=loopAt Pg N113 B113 K113 [1,1,1,1,0,0,1,1,1,0,1,0] [] n (vcRet Pg R113 Q) [(0,x0),(2,x2),(4,x4),(5,x5),(9,x9)] h
def Jz2j (Q:AEnd→AH→Prop) (x0 x2 x4 x5 x100:V) (h:AH):Prop:=vcAt Pg N113 B113 K113 [1,1,1,1,0,0,1,1,1] [] (vcRet Pg R113 Q) [(0,x0),(2,x2),(4,x4),(5,x5),(100,x100)] h
def Gz6 (Q:AEnd→AH→Prop) (x0 x2 x4 x5 x109 x113:V) (h:AH):Prop:=segAt Pg N113 B113 K113 [1,1,1,1,0,0,1,1,0] 4 2 [] (vcRet Pg R113 Q) [(0,x0),(2,x2),(4,x4),(5,x5),(109,x109),(113,x113)] h
def Gz5 (Q:AEnd→AH→Prop) (x0 x2 x4 x5 x104 x107:V) (h:AH):Prop:=segAt Pg N113 B113 K113 [1,1,1,1,0,0,1,1,0] 2 1 [] (vcRet Pg R113 Q) [(0,x0),(2,x2),(4,x4),(5,x5),(104,x104),(107,x107)] h
def Jz2a (Q:AEnd→AH→Prop) (x0 x2 x4 x5:V) (h:AH):Prop:=vcAt Pg N113 B113 K113 [1,1,1,1] [] (vcRet Pg R113 Q) [(0,x0),(2,x2),(4,x4),(5,x5)] h
def Lz5t (Q:AEnd→AH→Prop) (n:Nat) (x0 x2 x4 x5 x15 x16 x17:V) (h:AH):Prop:=loopAt Pg N113 B113 K113 [1,1,1,0,1,0] [] n (vcRet Pg R113 Q) [(0,x0),(2,x2),(4,x4),(5,x5),(15,x15),(16,x16),(17,x17)] h
theorem Jz29_eq (Q:AEnd→AH→Prop) (n:Nat) (x0 x2 x4 x5 x15 x16 x17:V) (h:AH):Jz29 Q n x0 x2 x4 x5 x15 x16 x17 h=(
 bindV (still (aBin Pg .add 3 x17 (V.int .i64 1) true) h) fun v33 h34 =>
 Meet (Lz5t Q n x0 x2 x4 x5 x15 x16 v33 h34)):=by kernel_rfl
theorem Jz28_eq (Q:AEnd→AH→Prop) (n:Nat) (x0 x2 x4 x5 x15 x16 x17:V) (h:AH):Jz28 Q n x0 x2 x4 x5 x15 x16 x17 h=(
 bindV (still (aIndexAddr Pg 337 x15 x17) h) fun v17 h18 =>
 bindV (aLoadV Pg h18 9 v17) fun v19 h20 =>
 bindV (still (aIndexAddr Pg 337 x4 (V.int .i64 0)) h20) fun v21 h22 =>
 bindV (aLoadV Pg h22 9 v21) fun v23 h24 =>
 bindV (still (aBin Pg .eql 9 v23 v19 false) h24) fun v25 h26 =>
 vcIf v25 (
 bindV (still (aConv Pg h26 3 5 x17) h26) fun v27 h28 =>
 bindV (still (aFieldAddr Pg 73 x5 0) h28) fun v29 h30 =>
 bindV (aStoreV Pg h30 5 v29 v27) fun _ h32 =>
 Meet (Jz29 Q n x0 x2 x4 x5 x15 x16 x17 h32)) (
 Meet (Jz29 Q n x0 x2 x4 x5 x15 x16 x17 h26))):=by kernel_rfl
theorem Jz2d_eq (Q:AEnd→AH→Prop) (n:Nat) (x0 x2 x4 x5 x8:V) (h:AH):Jz2d Q n x0 x2 x4 x5 x8 h=(
 bindV (still (aBin Pg .add 5 x8 (V.int .u8 1) true) h) fun v64 h65 =>
 Meet (Lz5u Q n x0 x2 x4 x5 v64 h65)):=by kernel_rfl
theorem Jz2c_eq (Q:AEnd→AH→Prop) (n:Nat) (x0 x2 x4 x5 x8 x54:V) (h:AH):Jz2c Q n x0 x2 x4 x5 x8 x54 h=(
 vcIf x54 (
 bindV (still (aFieldAddr Pg 73 x5 3) h) fun v58 h59 =>
 bindV (still (aFieldAddr Pg 57 v58 0) h59) fun v60 h61 =>
 bindV (aStoreV Pg h61 5 v60 x8) fun _ h63 =>
 Meet (Jz2d Q n x0 x2 x4 x5 x8 h63)) (
 Meet (Jz2d Q n x0 x2 x4 x5 x8 h))):=by kernel_rfl
theorem Gz2_eq (Q:AEnd→AH→Prop) (n:Nat) (x0 x2 x4 x5 x8 x47 x53:V) (h:AH):Gz2 Q n x0 x2 x4 x5 x8 x47 x53 h=(
 bindO (fstV (aPick x47 x53 (V.bool false) h)) fun v57 =>
 Meet (Jz2c Q n x0 x2 x4 x5 x8 v57 h)):=by kernel_rfl
theorem Jz2b_eq (Q:AEnd→AH→Prop) (n:Nat) (x0 x2 x4 x5 x8:V) (h:AH):Jz2b Q n x0 x2 x4 x5 x8 h=(
 bindO (fstV (aBuiltin Pg h .len [337] [x4])) fun v55 =>
 bindO (fstV (still (aBin Pg .gtr 3 v55 (V.int .i64 2) true) h)) fun v56 =>
 vcG v56 true (
 bindO (fstV (still (aIndexAddr Pg 337 x4 (V.int .i64 2)) h)) fun v66 =>
 bindO (fstV (aLoadV Pg h 9 v66)) fun v67 =>
 ∃ v68,ACalls Pg 120 [x8] h (pureE v68 h)∧(
 bindO (fstV (still (aBin Pg .eql 9 v67 v68 false) h)) fun v69 =>
 Meet (Gz2 Q n x0 x2 x4 x5 x8 v56 v69 h))) (Meet (Gz2 Q n x0 x2 x4 x5 x8 v56 hole h))):=by kernel_rfl
theorem Jz2n_eq (Q:AEnd→AH→Prop) (x2 x3:V) (h:AH):Jz2n Q x2 x3 h=(
 bindR (aRes Pg [(2,x2),(3,x3)] h R113) fun v=>Q (.ret v) h):=by kernel_rfl
theorem Gz7_eq (Q:AEnd→AH→Prop) (x2 x146 x148 x151:V) (h:AH):Gz7 Q x2 x146 x148 x151 h=(
 bindV (aPick x148 x151 (V.bool false) h) fun v144 h145 =>
 bindV (aStoreV Pg h145 73 x2 x146) fun _ h147 =>
 Meet (Jz2n Q x2 v144 h147)):=by kernel_rfl
theorem Jz2m_eq (Q:AEnd→AH→Prop) (x0 x2 x5:V) (h:AH):Jz2m Q x0 x2 x5 h=(
 bindV (aLoadV Pg h 73 x5) fun v134 h135 =>
 ACalls Pg 126 [v134] h135 (aEnd (fun v136 h137 =>
 bindV (still (aExtract v136 0) h137) fun v138 h139 =>
 bindV (still (aExtract v136 1) h139) fun v140 h141 =>
 bindV (aLoadV Pg h141 73 x5) fun v142 h143 =>
 vcG v140 true (
 bindV (still (aBin Pg .eql 9 v138 x0 false) h143) fun v148 h149 =>
 Meet (Gz7 Q x2 v142 v140 v148 h149)) (Meet (Gz7 Q x2 v142 v140 hole h143))) fun v h=>Q (.panic v) h)):=by kernel_rfl
theorem Jz2i_eq (Q:AEnd→AH→Prop) (x0 x2 x4 x5:V) (h:AH):Jz2i Q x0 x2 x4 x5 h=(
 bindV (still (aFieldAddr Pg 73 x5 3) h) fun v110 h111 =>
 bindV (still (aFieldAddr Pg 57 v110 0) h111) fun v112 h113 =>
 bindV (aLoadV Pg h113 5 v112) fun v114 h115 =>
 bindV (still (aBin Pg .eql 5 v114 (V.int .u8 2) true) h115) fun v116 h117 =>
 vcIf v116 (
 ACalls Pg 196 [x4,(V.int .i64 5)] h117 (aEnd (fun v118 h119 =>
 bindV (still (aFieldAddr Pg 73 x5 3) h119) fun v120 h121 =>
 bindV (still (aFieldAddr Pg 57 v120 3) h121) fun v122 h123 =>
 bindV (aStoreV Pg h123 3 v122 v118) fun _ h125 =>
 ACalls Pg 197 [x4,(V.int .i64 6)] h125 (aEnd (fun v126 h127 =>
 bindV (still (aFieldAddr Pg 73 x5 3) h127) fun v128 h129 =>
 bindV (still (aFieldAddr Pg 57 v128 4) h129) fun v130 h131 =>
 bindV (aStoreV Pg h131 9 v130 v126) fun _ h133 =>
 Meet (Jz2m Q x0 x2 x5 h133)) fun v h=>Q (.panic v) h)) fun v h=>Q (.panic v) h)) (
 Meet (Jz2m Q x0 x2 x5 h117))):=by kernel_rfl
theorem Jz2h_eq (Q:AEnd→AH→Prop) (x0 x2 x4 x5 x82:V) (h:AH):Jz2h Q x0 x2 x4 x5 x82 h=(
 vcIf x82 (
 ACalls Pg 196 [x4,(V.int .i64 4)] h (aEnd (fun v100 h101 =>
 bindV (still (aConv Pg h101 3 22 v100) h101) fun v102 h103 =>
 bindV (still (aFieldAddr Pg 73 x5 3) h103) fun v104 h105 =>
 bindV (still (aFieldAddr Pg 57 v104 2) h105) fun v106 h107 =>
 bindV (aStoreV Pg h107 22 v106 v102) fun _ h109 =>
 Meet (Jz2i Q x0 x2 x4 x5 h109)) fun v h=>Q (.panic v) h)) (
 Meet (Jz2i Q x0 x2 x4 x5 h))):=by kernel_rfl
theorem Gz4_eq (Q:AEnd→AH→Prop) (x0 x2 x4 x5 x77 x81:V) (h:AH):Gz4 Q x0 x2 x4 x5 x77 x81 h=(
 bindV (aPick x77 (V.bool true) x81 h) fun v98 h99 =>
 Meet (Jz2h Q x0 x2 x4 x5 v98 h99)):=by kernel_rfl
theorem Jz2g_eq (Q:AEnd→AH→Prop) (x0 x2 x4 x5:V) (h:AH):Jz2g Q x0 x2 x4 x5 h=(
 bindV (still (aFieldAddr Pg 73 x5 3) h) fun v90 h91 =>
 bindV (still (aFieldAddr Pg 57 v90 0) h91) fun v92 h93 =>
 bindV (aLoadV Pg h93 5 v92) fun v94 h95 =>
 bindV (still (aBin Pg .eql 5 v94 (V.int .u8 1) true) h95) fun v96 h97 =>
 vcG v96 false (
 bindV (still (aFieldAddr Pg 73 x5 3) h97) fun v150 h151 =>
 bindV (still (aFieldAddr Pg 57 v150 0) h151) fun v152 h153 =>
 bindV (aLoadV Pg h153 5 v152) fun v154 h155 =>
 bindV (still (aBin Pg .eql 5 v154 (V.int .u8 2) true) h155) fun v156 h157 =>
 Meet (Gz4 Q x0 x2 x4 x5 v96 v156 h157)) (Meet (Gz4 Q x0 x2 x4 x5 v96 hole h97))):=by kernel_rfl
theorem Jz2f_eq (Q:AEnd→AH→Prop) (x0 x2 x4 x5 x67:V) (h:AH):Jz2f Q x0 x2 x4 x5 x67 h=(
 vcIf x67 (
 ACalls Pg 196 [x4,(V.int .i64 3)] h (aEnd (fun v80 h81 =>
 bindV (still (aConv Pg h81 3 49 v80) h81) fun v82 h83 =>
 bindV (still (aFieldAddr Pg 73 x5 3) h83) fun v84 h85 =>
 bindV (still (aFieldAddr Pg 57 v84 1) h85) fun v86 h87 =>
 bindV (aStoreV Pg h87 49 v86 v82) fun _ h89 =>
 Meet (Jz2g Q x0 x2 x4 x5 h89)) fun v h=>Q (.panic v) h)) (
 Meet (Jz2g Q x0 x2 x4 x5 h))):=by kernel_rfl
theorem Gz3_eq (Q:AEnd→AH→Prop) (x0 x2 x4 x5 x62 x66:V) (h:AH):Gz3 Q x0 x2 x4 x5 x62 x66 h=(
 bindV (aPick x62 x66 (V.bool false) h) fun v78 h79 =>
 Meet (Jz2f Q x0 x2 x4 x5 v78 h79)):=by kernel_rfl
theorem Jz2e_eq (Q:AEnd→AH→Prop) (x0 x2 x4 x5:V) (h:AH):Jz2e Q x0 x2 x4 x5 h=(
 bindV (still (aFieldAddr Pg 73 x5 3) h) fun v70 h71 =>
 bindV (still (aFieldAddr Pg 57 v70 0) h71) fun v72 h73 =>
 bindV (aLoadV Pg h73 5 v72) fun v74 h75 =>
 bindV (still (aBin Pg .geq 5 v74 (V.int .u8 1) true) h75) fun v76 h77 =>
 vcG v76 true (
 bindV (still (aFieldAddr Pg 73 x5 3) h77) fun v158 h159 =>
 bindV (still (aFieldAddr Pg 57 v158 0) h159) fun v160 h161 =>
 bindV (aLoadV Pg h161 5 v160) fun v162 h163 =>
 bindV (still (aBin Pg .leq 5 v162 (V.int .u8 4) true) h163) fun v164 h165 =>
 Meet (Gz3 Q x0 x2 x4 x5 v76 v164 h165)) (Meet (Gz3 Q x0 x2 x4 x5 v76 hole h77))):=by kernel_rfl
theorem Lz5u_eq (Q:AEnd→AH→Prop) (n:Nat) (x0 x2 x4 x5 x8:V) (h:AH):Lz5u Q (n + 1) x0 x2 x4 x5 x8 h=(
 bindV (still (aBin Pg .lss 5 x8 (V.int .u8 8) true) h) fun v53 h54 =>
 vcIf v53 (
 Meet (Jz2b Q n x0 x2 x4 x5 x8 h54)) (
 Meet (Jz2e Q x0 x2 x4 x5 h54))):=by kernel_rfl
theorem Jz2l_eq (Q:AEnd→AH→Prop) (n:Nat) (x0 x2 x4 x5 x9:V) (h:AH):Jz2l Q n x0 x2 x4 x5 x9 h=(
 bindV (still (aBin Pg .add 3 x9 (V.int .i64 1) true) h) fun v197 h198 =>
 Meet (Lz5v Q n x0 x2 x4 x5 v197 h198)):=by kernel_rfl
theorem Jz2k_eq (Q:AEnd→AH→Prop) (n:Nat) (x0 x2 x4 x5 x9:V) (h:AH):Jz2k Q n x0 x2 x4 x5 x9 h=(
 bindO (fstV (still (aFieldAddr Pg 73 x5 4) h)) fun v184 =>
 bindO (fstV (aLoadV Pg h 71 v184)) fun v185 =>
 (
 bindO (fstV (still (aIndexAddr Pg 337 x4 (V.int .i64 1)) h)) fun v186 =>
 bindO (fstV (aLoadV Pg h 9 v186)) fun v187 =>
 (
 bindO (fstV (still (aIndex Pg 9 v187 x9) h)) fun v188 =>
 bindO (fstV (still (aBin Pg .eql 5 v188 (V.int .u8 49) true) h)) fun v189 =>
 bindV (aBuildSlice Pg h 71 1 [(0,v189)]) fun v190 h191=>(aLoadV Pg h191 71 v184=some (v185,h191))∧(
 bindV (aBuiltin Pg h191 .append [71,71] [v185,v190]) fun v192 h193=>(
 bindO (fstV (still (aFieldAddr Pg 73 x5 4) h193)) fun v194 =>
 bindV (aStoreV Pg h193 71 v194 v192) fun _ h196=>(
 Meet (Jz2l Q n x0 x2 x4 x5 x9 h196))))))):=by kernel_rfl
theorem Lz5v_eq (Q:AEnd→AH→Prop) (n:Nat) (x0 x2 x4 x5 x9:V) (h:AH):Lz5v Q (n + 1) x0 x2 x4 x5 x9 h=(
 bindV (still (aIndexAddr Pg 337 x4 (V.int .i64 1)) h) fun v176 h177 =>
 bindV (aLoadV Pg h177 9 v176) fun v178 h179 =>
 bindV (aBuiltin Pg h179 .len [9] [v178]) fun v180 h181 =>
 bindV (still (aBin Pg .lss 3 x9 v180 false) h181) fun v182 h183 =>
 vcIf v182 (
 Meet (Jz2k Q n x0 x2 x4 x5 x9 h183)) (
 Meet (Jz2m Q x0 x2 x5 h183))):=by kernel_rfl
theorem Jz2j_eq (Q:AEnd→AH→Prop) (x0 x2 x4 x5 x100:V) (h:AH):Jz2j Q x0 x2 x4 x5 x100 h=(
 vcIf x100 (
 ∃ n,Meet (Lz5v Q n x0 x2 x4 x5 (V.int .i64 0) h)) (
 bindV (still (aFieldAddr Pg 73 x5 0) h) fun v199 h200 =>
 bindV (aLoadV Pg h200 5 v199) fun v201 h202 =>
 bindV (still (aBin Pg .neq 5 v201 (V.int .u8 5) true) h202) fun v203 h204 =>
 vcIf v203 (
 ACalls Pg 196 [x4,(V.int .i64 1)] h204 (aEnd (fun v205 h206 =>
 bindV (still (aFieldAddr Pg 73 x5 1) h206) fun v207 h208 =>
 bindV (aStoreV Pg h208 3 v207 v205) fun _ h210 =>
 Meet (Jz2m Q x0 x2 x5 h210)) fun v h=>Q (.panic v) h)) (
 Meet (Jz2m Q x0 x2 x5 h204)))):=by kernel_rfl
theorem Gz6_eq (Q:AEnd→AH→Prop) (x0 x2 x4 x5 x109 x113:V) (h:AH):Gz6 Q x0 x2 x4 x5 x109 x113 h=(
 bindV (aPick x109 x113 (V.bool false) h) fun v174 h175 =>
 Meet (Jz2j Q x0 x2 x4 x5 v174 h175)):=by kernel_rfl
theorem Gz5_eq (Q:AEnd→AH→Prop) (x0 x2 x4 x5 x104 x107:V) (h:AH):Gz5 Q x0 x2 x4 x5 x104 x107 h=(
 bindV (aPick x104 x107 (V.bool false) h) fun v172 h173 =>
 vcG v172 true (
 bindV (still (aIndexAddr Pg 337 x4 (V.int .i64 1)) h173) fun v211 h212 =>
 bindV (aLoadV Pg h212 9 v211) fun v213 h214 =>
 bindV (still (aBin Pg .neq 9 v213 (V.str [45]) true) h214) fun v215 h216 =>
 Meet (Gz6 Q x0 x2 x4 x5 v172 v215 h216)) (Meet (Gz6 Q x0 x2 x4 x5 v172 hole h173))):=by kernel_rfl
theorem Jz2a_eq (Q:AEnd→AH→Prop) (x0 x2 x4 x5:V) (h:AH):Jz2a Q x0 x2 x4 x5 h=(
 bindV (still (aFieldAddr Pg 73 x5 0) h) fun v35 h36 =>
 bindV (aLoadV Pg h36 5 v35) fun v37 h38 =>
 bindV (still (aBin Pg .eql 5 v37 (V.int .u8 0) true) h38) fun v39 h40 =>
 vcIf v39 (
 ACalls Pg 196 [x4,(V.int .i64 1)] h40 (aEnd (fun v41 h42 =>
 bindV (still (aFieldAddr Pg 73 x5 1) h42) fun v43 h44 =>
 bindV (aStoreV Pg h44 3 v43 v41) fun _ h46 =>
 bindV (still (aFieldAddr Pg 73 x5 3) h46) fun v47 h48 =>
 bindV (still (aFieldAddr Pg 57 v47 0) h48) fun v49 h50 =>
 bindV (aStoreV Pg h50 5 v49 (V.int .u8 99)) fun _ h52 =>
 ∃ n,Meet (Lz5u Q n x0 x2 x4 x5 (V.int .u8 0) h52)) fun v h=>Q (.panic v) h)) (
 bindV (still (aFieldAddr Pg 73 x5 0) h40) fun v166 h167 =>
 bindV (aLoadV Pg h167 5 v166) fun v168 h169 =>
 bindV (still (aBin Pg .eql 5 v168 (V.int .u8 5) true) h169) fun v170 h171 =>
 vcG v170 true (
 bindV (aBuiltin Pg h171 .len [337] [x4]) fun v217 h218 =>
 bindV (still (aBin Pg .gtr 3 v217 (V.int .i64 1) true) h218) fun v219 h220 =>
 Meet (Gz5 Q x0 x2 x4 x5 v170 v219 h220)) (Meet (Gz5 Q x0 x2 x4 x5 v170 hole h171)))):=by kernel_rfl
theorem Lz5t_eq (Q:AEnd→AH→Prop) (n:Nat) (x0 x2 x4 x5 x15 x16 x17:V) (h:AH):Lz5t Q (n + 1) x0 x2 x4 x5 x15 x16 x17 h=(
 bindV (still (aBin Pg .lss 3 x17 x16 false) h) fun v15 h16 =>
 vcIf v15 (
 Meet (Jz28 Q n x0 x2 x4 x5 x15 x16 x17 h16)) (
 Meet (Jz2a Q x0 x2 x4 x5 h16))):=by kernel_rfl
theorem S113 (Q:AEnd→AH→Prop) (a0:V) (h:AH):vc Pg N113 B113 K113 (vcRet Pg R113 Q) (initEnv 0 [a0]) h=(
 bindV (aAlloc Pg h 73) fun v1 h2 =>
 ACalls Pg 195 [a0] h2 (aEnd (fun v3 h4 =>
 bindV (still (aBuild Pg 73 [(0,(V.int .u8 99))]) h4) fun v5 h6 =>
 bindV (aAlloc Pg h6 73) fun v7 h8 =>
 bindV (aStoreV Pg h8 73 v7 v5) fun _ h10 =>
 bindV (aBuildSlice Pg h10 337 7 [(0,(V.str [97,115,107])),(1,(V.str [115,116,101,112])),(2,(V.str [114,111,117,110,100])),(3,(V.str [102,117,115,101])),(4,(V.str [102,97,105,108])),(5,(V.str [99,114,97,115,104])),(6,(V.str [111,112,101,110]))]) fun v11 h12 =>
 bindV (aBuiltin Pg h12 .len [337] [v11]) fun v13 h14 =>
 ∃ n,Meet (Lz5t Q n a0 v1 v3 v7 v11 v13 (V.int .i64 0) h14)) fun v h=>Q (.panic v) h)):=by kernel_rfl
theorem C113 (Q:AEnd→AH→Prop) (a0:V) (h:AH) (c :
 bindV (aAlloc Pg h 73) fun v1 h2 =>
 ACalls Pg 195 [a0] h2 (aEnd (fun v3 h4 =>
 bindV (still (aBuild Pg 73 [(0,(V.int .u8 99))]) h4) fun v5 h6 =>
 bindV (aAlloc Pg h6 73) fun v7 h8 =>
 bindV (aStoreV Pg h8 73 v7 v5) fun _ h10 =>
 bindV (aBuildSlice Pg h10 337 7 [(0,(V.str [97,115,107])),(1,(V.str [115,116,101,112])),(2,(V.str [114,111,117,110,100])),(3,(V.str [102,117,115,101])),(4,(V.str [102,97,105,108])),(5,(V.str [99,114,97,115,104])),(6,(V.str [111,112,101,110]))]) fun v11 h12 =>
 bindV (aBuiltin Pg h12 .len [337] [v11]) fun v13 h14 =>
 ∃ n,Meet (Lz5t Q n a0 v1 v3 v7 v11 v13 (V.int .i64 0) h14)) fun v h=>Q (.panic v) h)):ACalls Pg 113 [a0] h Q :=
 acalls_of_vc okP Tryz.func113 (show Tryz.f113.body=some B113 from by kernel_rfl) K113 (by rw [← S113 Q a0 h] at c;exact c)
noncomputable def B126:Code:=(Tryz.f126.body).getD .skip
def R126:List ResultVar:=[.tmp 2,.tmp 3]
abbrev N126:Nat:=214
def K126:KT:=(.seq .leaf (.join (.join (.reg [[1,12,15],[1,17,20],[1,22,25]]) (.two (.seq .leaf .leaf [2,3]) .leaf) [1,26]) (.seq .leaf (.join (.seq .leaf (.two (.join (.join (.reg [[1,4,35,38],[1,4,40,44],[1,4,46,49],[1,4,51,54],[1,4,56,59],[1,4,61,65]]) (.two (.seq .leaf .leaf [2,3]) .leaf) [1,4,66]) (.seq .leaf (.join (.seq .leaf (.one (.seq .leaf (.two (.seq .leaf .leaf [2,3]) (.seq .leaf (.two (.join (.reg [[117,121,124]]) .leaf [2,3]) (.join (.seq .leaf (.two .leaf .leaf) [4,5,78,126]) (.two (.join (.reg [[4,134,138,141],[134,143,146]]) .leaf [2,3]) .leaf) [4,5,126])) [4,5,78,104])) [4,5,78,79])) [4,5,78]) (.seq .leaf .leaf [2,3]) [4,5]) [4,5]) [1,4]) .leaf) [1,4,31]) (.join (.seq .leaf (.two (.seq .leaf .leaf [2,3]) .leaf) [1,156]) (.join (.seq .leaf (.two (.seq .leaf (.join (.seq .leaf (.one (.loop (.join (.seq .leaf (.two .leaf .leaf) [1,6,7,164]) (.join (.one (.seq .leaf (.two .leaf .leaf) [1,6,7,171])) .leaf [1,6,7]) [1,6,7]) [1,6,7])) [1,6,7]) (.join (.seq .leaf (.two .leaf .leaf) [1,6,179]) (.join (.reg [[182,186,190]]) .leaf [2,3]) [1,6]) [1,6]) [1,6]) .leaf) [1,159]) (.seq .leaf (.join (.seq .leaf (.one (.seq .leaf (.two .leaf (.seq .leaf (.two .leaf (.seq .leaf (.two .leaf (.seq .leaf (.two .leaf (.seq .leaf (.two .leaf .leaf) [1,8,202])) [1,8,193,200])) [1,8,193,198])) [1,8,193,196])) [1,8,193,194])) [1,8,193]) (.seq .leaf .leaf [2,3]) [1,8]) [1,8]) [1]) [1]) [1,4]) [1,4]) [1]) [1])
def Jz3k (Q:AEnd→AH→Prop) (x2 x3:V) (h:AH):Prop:=vcAt Pg N126 B126 K126 [1,1,1,0,1,0,1,1,0,1,0,1,1,1,0,1] [] (vcRet Pg R126 Q) [(2,x2),(3,x3)] h
def Gz15 (Q:AEnd→AH→Prop) (x117 x121 x124:V) (h:AH):Prop:=segAtD Pg N126 B126 K126 [1,1,1,0,1,0,1,1,0,1,0,1,1,1,0,0] 2 1 19 [] (vcRet Pg R126 Q) [(117,x117),(121,x121),(124,x124)] h
def Jz3m (Q:AEnd→AH→Prop) (x2 x3:V) (h:AH):Prop:=vcAt Pg N126 B126 K126 [1,1,1,0,1,0,1,1,0,1,0,1,1,1,1,1,0,1] [] (vcRet Pg R126 Q) [(2,x2),(3,x3)] h
def Gz17 (Q:AEnd→AH→Prop) (x134 x143 x146:V) (h:AH):Prop:=segAtD Pg N126 B126 K126 [1,1,1,0,1,0,1,1,0,1,0,1,1,1,1,1,0,0] 4 2 18 [] (vcRet Pg R126 Q) [(134,x134),(143,x143),(146,x146)] h
def Gz16 (Q:AEnd→AH→Prop) (x4 x134 x138 x141:V) (h:AH):Prop:=segAtD Pg N126 B126 K126 [1,1,1,0,1,0,1,1,0,1,0,1,1,1,1,1,0,0] 2 1 13 [] (vcRet Pg R126 Q) [(4,x4),(134,x134),(138,x138),(141,x141)] h
def Jz3n (Q:AEnd→AH→Prop) (x4 x5:V) (h:AH):Prop:=vcAt Pg N126 B126 K126 [1,1,1,0,1,0,1,1,1] [] (vcRet Pg R126 Q) [(4,x4),(5,x5)] h
def Jz3l (Q:AEnd→AH→Prop) (x4 x5 x126:V) (h:AH):Prop:=vcAt Pg N126 B126 K126 [1,1,1,0,1,0,1,1,0,1,0,1,1,1,1,1] [] (vcRet Pg R126 Q) [(4,x4),(5,x5),(126,x126)] h
def Jz3j (Q:AEnd→AH→Prop) (x1 x4:V) (h:AH):Prop:=vcAt Pg N126 B126 K126 [1,1,1,0,1,0,1] [] (vcRet Pg R126 Q) [(1,x1),(4,x4)] h
def Jz3i (Q:AEnd→AH→Prop) (x1 x4 x66:V) (h:AH):Prop:=vcAt Pg N126 B126 K126 [1,1,1,0,1,0,0,1] [] (vcRet Pg R126 Q) [(1,x1),(4,x4),(66,x66)] h
def Gz14 (Q:AEnd→AH→Prop) (x1 x4 x61 x65:V) (h:AH):Prop:=segAt Pg N126 B126 K126 [1,1,1,0,1,0,0,0] 12 6 [] (vcRet Pg R126 Q) [(1,x1),(4,x4),(61,x61),(65,x65)] h
def Gz13 (Q:AEnd→AH→Prop) (x1 x4 x56 x59:V) (h:AH):Prop:=segAt Pg N126 B126 K126 [1,1,1,0,1,0,0,0] 10 5 [] (vcRet Pg R126 Q) [(1,x1),(4,x4),(56,x56),(59,x59)] h
def Gz12 (Q:AEnd→AH→Prop) (x1 x4 x51 x54:V) (h:AH):Prop:=segAt Pg N126 B126 K126 [1,1,1,0,1,0,0,0] 8 4 [] (vcRet Pg R126 Q) [(1,x1),(4,x4),(51,x51),(54,x54)] h
def Gz11 (Q:AEnd→AH→Prop) (x1 x4 x46 x49:V) (h:AH):Prop:=segAt Pg N126 B126 K126 [1,1,1,0,1,0,0,0] 6 3 [] (vcRet Pg R126 Q) [(1,x1),(4,x4),(46,x46),(49,x49)] h
def Gz10 (Q:AEnd→AH→Prop) (x1 x4 x40 x44:V) (h:AH):Prop:=segAt Pg N126 B126 K126 [1,1,1,0,1,0,0,0] 4 2 [] (vcRet Pg R126 Q) [(1,x1),(4,x4),(40,x40),(44,x44)] h
def Gzz (Q:AEnd→AH→Prop) (x1 x4 x35 x38:V) (h:AH):Prop:=segAt Pg N126 B126 K126 [1,1,1,0,1,0,0,0] 2 1 [] (vcRet Pg R126 Q) [(1,x1),(4,x4),(35,x35),(38,x38)] h
def Jz3r (Q:AEnd→AH→Prop) (n:Nat) (x1 x6 x7:V) (h:AH):Prop:=vcAt Pg N126 B126 K126 [1,1,1,1,1,0,1,0,1,0,1,0,0,1,1] [n] (vcRet Pg R126 Q) [(1,x1),(6,x6),(7,x7)] h
def Jz3q (Q:AEnd→AH→Prop) (n:Nat) (x1 x6 x7:V) (h:AH):Prop:=vcAt Pg N126 B126 K126 [1,1,1,1,1,0,1,0,1,0,1,0,0,1] [n] (vcRet Pg R126 Q) [(1,x1),(6,x6),(7,x7)] h
def Jz3u (Q:AEnd→AH→Prop) (x2 x3:V) (h:AH):Prop:=vcAt Pg N126 B126 K126 [1,1,1,1,1,0,1,0,1,1,1,1] [] (vcRet Pg R126 Q) [(2,x2),(3,x3)] h
def Gz18 (Q:AEnd→AH→Prop) (x182 x186 x190:V) (h:AH):Prop:=segAtD Pg N126 B126 K126 [1,1,1,1,1,0,1,0,1,1,1,0] 2 1 9 [] (vcRet Pg R126 Q) [(182,x182),(186,x186),(190,x190)] h
def Jz3t (Q:AEnd→AH→Prop) (x1 x6:V) (h:AH):Prop:=vcAt Pg N126 B126 K126 [1,1,1,1,1,0,1,0,1,1,1] [] (vcRet Pg R126 Q) [(1,x1),(6,x6)] h
def Jz3s (Q:AEnd→AH→Prop) (x1 x6:V) (h:AH):Prop:=vcAt Pg N126 B126 K126 [1,1,1,1,1,0,1,0,1,1] [] (vcRet Pg R126 Q) [(1,x1),(6,x6)] h
def Lz61 (Q:AEnd→AH→Prop) (n:Nat) (x1 x6 x7:V) (h:AH):Prop:=loopAt Pg N126 B126 K126 [1,1,1,1,1,0,1,0,1,0,1,0] [] n (vcRet Pg R126 Q) [(1,x1),(6,x6),(7,x7)] h
def Jz3w (Q:AEnd→AH→Prop) (x1 x8:V) (h:AH):Prop:=vcAt Pg N126 B126 K126 [1,1,1,1,1,1,1,1] [] (vcRet Pg R126 Q) [(1,x1),(8,x8)] h
def Jz3v (Q:AEnd→AH→Prop) (x1:V) (h:AH):Prop:=vcAt Pg N126 B126 K126 [1,1,1,1,1,1] [] (vcRet Pg R126 Q) [(1,x1)] h
def Jz3p (Q:AEnd→AH→Prop) (x1:V) (h:AH):Prop:=vcAt Pg N126 B126 K126 [1,1,1,1,1] [] (vcRet Pg R126 Q) [(1,x1)] h
def Jz3o (Q:AEnd→AH→Prop) (x1 x4:V) (h:AH):Prop:=vcAt Pg N126 B126 K126 [1,1,1,1] [] (vcRet Pg R126 Q) [(1,x1),(4,x4)] h
def Jz3h (Q:AEnd→AH→Prop) (x1:V) (h:AH):Prop:=vcAt Pg N126 B126 K126 [1,1] [] (vcRet Pg R126 Q) [(1,x1)] h
def Jz3g (Q:AEnd→AH→Prop) (x1 x26:V) (h:AH):Prop:=vcAt Pg N126 B126 K126 [1,0,1] [] (vcRet Pg R126 Q) [(1,x1),(26,x26)] h
def Gzy (Q:AEnd→AH→Prop) (x1 x22 x25:V) (h:AH):Prop:=segAt Pg N126 B126 K126 [1,0,0] 6 3 [] (vcRet Pg R126 Q) [(1,x1),(22,x22),(25,x25)] h
def Gzx (Q:AEnd→AH→Prop) (x1 x17 x20:V) (h:AH):Prop:=segAt Pg N126 B126 K126 [1,0,0] 4 2 [] (vcRet Pg R126 Q) [(1,x1),(17,x17),(20,x20)] h
def Gzw (Q:AEnd→AH→Prop) (x1 x12 x15:V) (h:AH):Prop:=segAt Pg N126 B126 K126 [1,0,0] 2 1 [] (vcRet Pg R126 Q) [(1,x1),(12,x12),(15,x15)] h
theorem Jz3k_eq (Q:AEnd→AH→Prop) (x2 x3:V) (h:AH):Jz3k Q x2 x3 h=(
 Q (.ret (V.tup [x2,x3])) h):=by kernel_rfl
theorem Gz15_eq (Q:AEnd→AH→Prop) (x117 x121 x124:V) (h:AH):Gz15 Q x117 x121 x124 h=(
 bindO (fstV (aPick x121 x124 (V.bool false) h)) fun v101 =>
 Meet (Jz3k Q x117 v101 h)):=by kernel_rfl
theorem Jz3m_eq (Q:AEnd→AH→Prop) (x2 x3:V) (h:AH):Jz3m Q x2 x3 h=(
 Q (.ret (V.tup [x2,x3])) h):=by kernel_rfl
theorem Gz17_eq (Q:AEnd→AH→Prop) (x134 x143 x146:V) (h:AH):Gz17 Q x134 x143 x146 h=(
 bindO (fstV (aPick x143 x146 (V.bool false) h)) fun v116 =>
 Meet (Jz3m Q x134 v116 h)):=by kernel_rfl
theorem Gz16_eq (Q:AEnd→AH→Prop) (x4 x134 x138 x141:V) (h:AH):Gz16 Q x4 x134 x138 x141 h=(
 bindO (fstV (aPick x138 x141 (V.bool false) h)) fun v115 =>
 vcG v115 true (
 bindO (fstV (still (aFieldAddr Pg 57 x4 4) h)) fun v117 =>
 bindO (fstV (aLoadV Pg h 9 v117)) fun v118 =>
 bindO (fstV (still (aBin Pg .eql 9 v118 (V.str []) true) h)) fun v119 =>
 Meet (Gz17 Q x134 v115 v119 h)) (Meet (Gz17 Q x134 v115 hole h))):=by kernel_rfl
theorem Jz3n_eq (Q:AEnd→AH→Prop) (x4 x5:V) (h:AH):Jz3n Q x4 x5 h=(
 bindO (fstV (aLoadV Pg h 57 x4)) fun v123 =>
 bindO (fstV (still (aFieldAddr Pg 57 x4 0) h)) fun v124 =>
 bindO (fstV (aLoadV Pg h 5 v124)) fun v125 =>
 bindO (fstV (still (aBuild Pg 57 [(0,v125)]) h)) fun v126 =>
 bindO (fstV (still (aBin Pg .eql 57 v123 v126 false) h)) fun v127 =>
 Q (.ret (V.tup [x5,v127])) h):=by kernel_rfl
theorem Jz3l_eq (Q:AEnd→AH→Prop) (x4 x5 x126:V) (h:AH):Jz3l Q x4 x5 x126 h=(
 vcIf x126 (
 bindO (fstV (still (aBin Pg .add 9 x5 (V.str [32]) true) h)) fun v107 =>
 bindO (fstV (still (aFieldAddr Pg 57 x4 1) h)) fun v108 =>
 bindO (fstV (aLoadV Pg h 49 v108)) fun v109 =>
 ∃ v110,ACalls Pg 119 [v109] h (pureE v110 h)∧(
 bindO (fstV (still (aBin Pg .add 9 v107 v110 false) h)) fun v111 =>
 bindO (fstV (still (aFieldAddr Pg 57 x4 2) h)) fun v112 =>
 bindO (fstV (aLoadV Pg h 22 v112)) fun v113 =>
 bindO (fstV (still (aBin Pg .eql 22 v113 (V.int .u16 0) true) h)) fun v114 =>
 vcG v114 true (
 bindO (fstV (still (aFieldAddr Pg 57 x4 3) h)) fun v120 =>
 bindO (fstV (aLoadV Pg h 3 v120)) fun v121 =>
 bindO (fstV (still (aBin Pg .eql 3 v121 (V.int .i64 0) true) h)) fun v122 =>
 Meet (Gz16 Q x4 v111 v114 v122 h)) (Meet (Gz16 Q x4 v111 v114 hole h)))) (
 Meet (Jz3n Q x4 x5 h))):=by kernel_rfl
theorem Jz3j_eq (Q:AEnd→AH→Prop) (x1 x4:V) (h:AH):Jz3j Q x1 x4 h=(
 bindO (fstV (still (aFieldAddr Pg 73 x1 1) h)) fun v47 =>
 bindO (fstV (aLoadV Pg h 3 v47)) fun v48 =>
 bindO (fstV (still (aConv Pg h 3 49 v48) h)) fun v49 =>
 ∃ v50,ACalls Pg 119 [v49] h (pureE v50 h)∧(
 bindO (fstV (still (aBin Pg .add 9 (V.str [97,115,107,32]) v50 true) h)) fun v51 =>
 bindO (fstV (still (aBin Pg .add 9 v51 (V.str [32]) true) h)) fun v52 =>
 bindO (fstV (still (aFieldAddr Pg 57 x4 0) h)) fun v53 =>
 bindO (fstV (aLoadV Pg h 5 v53)) fun v54 =>
 ∃ v55,ACalls Pg 120 [v54] h (pureE v55 h)∧(
 bindO (fstV (still (aBin Pg .add 9 v52 v55 false) h)) fun v56 =>
 bindV (still (aFieldAddr Pg 57 x4 0) h) fun v57 h58 =>
 bindV (aLoadV Pg h58 5 v57) fun v59 h60 =>
 bindV (still (aBin Pg .eql 5 v59 (V.int .u8 2) true) h60) fun v61 h62 =>
 vcIf v61 (
 bindO (fstV (still (aBin Pg .add 9 v56 (V.str [32]) true) h62)) fun v63 =>
 bindO (fstV (still (aFieldAddr Pg 57 x4 1) h62)) fun v64 =>
 bindO (fstV (aLoadV Pg h62 49 v64)) fun v65 =>
 ∃ v66,ACalls Pg 119 [v65] h62 (pureE v66 h62)∧(
 bindO (fstV (still (aBin Pg .add 9 v63 v66 false) h62)) fun v67 =>
 bindO (fstV (still (aBin Pg .add 9 v67 (V.str [32]) true) h62)) fun v68 =>
 bindO (fstV (still (aFieldAddr Pg 57 x4 2) h62)) fun v69 =>
 bindO (fstV (aLoadV Pg h62 22 v69)) fun v70 =>
 bindO (fstV (still (aConv Pg h62 22 49 v70) h62)) fun v71 =>
 ∃ v72,ACalls Pg 119 [v71] h62 (pureE v72 h62)∧(
 bindO (fstV (still (aBin Pg .add 9 v68 v72 false) h62)) fun v73 =>
 bindO (fstV (still (aBin Pg .add 9 v73 (V.str [32]) true) h62)) fun v74 =>
 bindO (fstV (still (aFieldAddr Pg 57 x4 3) h62)) fun v75 =>
 bindO (fstV (aLoadV Pg h62 3 v75)) fun v76 =>
 bindO (fstV (still (aConv Pg h62 3 49 v76) h62)) fun v77 =>
 ∃ v78,ACalls Pg 119 [v77] h62 (pureE v78 h62)∧(
 bindO (fstV (still (aBin Pg .add 9 v74 v78 false) h62)) fun v79 =>
 bindO (fstV (still (aBin Pg .add 9 v79 (V.str [32]) true) h62)) fun v80 =>
 bindO (fstV (still (aFieldAddr Pg 57 x4 4) h62)) fun v81 =>
 bindO (fstV (aLoadV Pg h62 9 v81)) fun v82 =>
 ∃ v83,ACalls Pg 121 [v82] h62 (pureE v83 h62)∧(
 bindO (fstV (still (aBin Pg .add 9 v80 v83 false) h62)) fun v84 =>
 Q (.ret (V.tup [v84,(V.bool true)])) h62))))) (
 bindV (still (aBin Pg .eql 5 v59 (V.int .u8 1) true) h62) fun v85 h86 =>
 vcIf v85 (
 bindO (fstV (still (aBin Pg .add 9 v56 (V.str [32]) true) h86)) fun v87 =>
 bindO (fstV (still (aFieldAddr Pg 57 x4 1) h86)) fun v88 =>
 bindO (fstV (aLoadV Pg h86 49 v88)) fun v89 =>
 ∃ v90,ACalls Pg 119 [v89] h86 (pureE v90 h86)∧(
 bindO (fstV (still (aBin Pg .add 9 v87 v90 false) h86)) fun v91 =>
 bindO (fstV (still (aBin Pg .add 9 v91 (V.str [32]) true) h86)) fun v92 =>
 bindO (fstV (still (aFieldAddr Pg 57 x4 2) h86)) fun v93 =>
 bindO (fstV (aLoadV Pg h86 22 v93)) fun v94 =>
 bindO (fstV (still (aConv Pg h86 22 49 v94) h86)) fun v95 =>
 ∃ v96,ACalls Pg 119 [v95] h86 (pureE v96 h86)∧(
 bindO (fstV (still (aBin Pg .add 9 v92 v96 false) h86)) fun v97 =>
 bindO (fstV (still (aFieldAddr Pg 57 x4 3) h86)) fun v98 =>
 bindO (fstV (aLoadV Pg h86 3 v98)) fun v99 =>
 bindO (fstV (still (aBin Pg .eql 3 v99 (V.int .i64 0) true) h86)) fun v100 =>
 vcG v100 true (
 bindO (fstV (still (aFieldAddr Pg 57 x4 4) h86)) fun v102 =>
 bindO (fstV (aLoadV Pg h86 9 v102)) fun v103 =>
 bindO (fstV (still (aBin Pg .eql 9 v103 (V.str []) true) h86)) fun v104 =>
 Meet (Gz15 Q v97 v100 v104 h86)) (Meet (Gz15 Q v97 v100 hole h86))))) (
 bindV (still (aBin Pg .eql 5 v59 (V.int .u8 3) true) h86) fun v105 h106 =>
 vcIf v105 (
 Meet (Jz3l Q x4 v56 v105 h106)) (
 bindV (still (aBin Pg .eql 5 v59 (V.int .u8 4) true) h106) fun v128 h129 =>
 Meet (Jz3l Q x4 v56 v128 h129))))))):=by kernel_rfl
theorem Jz3i_eq (Q:AEnd→AH→Prop) (x1 x4 x66:V) (h:AH):Jz3i Q x1 x4 x66 h=(
 vcIf x66 (
 Q (.ret (V.tup [(V.str []),(V.bool false)])) h) (
 Meet (Jz3j Q x1 x4 h))):=by kernel_rfl
theorem Gz14_eq (Q:AEnd→AH→Prop) (x1 x4 x61 x65:V) (h:AH):Gz14 Q x1 x4 x61 x65 h=(
 bindV (aPick x61 (V.bool true) x65 h) fun v45 h46 =>
 Meet (Jz3i Q x1 x4 v45 h46)):=by kernel_rfl
theorem Gz13_eq (Q:AEnd→AH→Prop) (x1 x4 x56 x59:V) (h:AH):Gz13 Q x1 x4 x56 x59 h=(
 bindV (aPick x56 (V.bool true) x59 h) fun v43 h44 =>
 vcG v43 false (
 bindV (still (aFieldAddr Pg 57 x4 4) h44) fun v130 h131 =>
 bindV (aLoadV Pg h131 9 v130) fun v132 h133 =>
 bindV (aBuiltin Pg h133 .len [9] [v132]) fun v134 h135 =>
 bindV (still (aBin Pg .gtr 3 v134 (V.int .i64 64) true) h135) fun v136 h137 =>
 Meet (Gz14 Q x1 x4 v43 v136 h137)) (Meet (Gz14 Q x1 x4 v43 hole h44))):=by kernel_rfl
theorem Gz12_eq (Q:AEnd→AH→Prop) (x1 x4 x51 x54:V) (h:AH):Gz12 Q x1 x4 x51 x54 h=(
 bindV (aPick x51 (V.bool true) x54 h) fun v41 h42 =>
 vcG v41 false (
 bindV (still (aFieldAddr Pg 57 x4 3) h42) fun v138 h139 =>
 bindV (aLoadV Pg h139 3 v138) fun v140 h141 =>
 bindV (still (aBin Pg .gtr 3 v140 (V.int .i64 2147483647) true) h141) fun v142 h143 =>
 Meet (Gz13 Q x1 x4 v41 v142 h143)) (Meet (Gz13 Q x1 x4 v41 hole h42))):=by kernel_rfl
theorem Gz11_eq (Q:AEnd→AH→Prop) (x1 x4 x46 x49:V) (h:AH):Gz11 Q x1 x4 x46 x49 h=(
 bindV (aPick x46 (V.bool true) x49 h) fun v39 h40 =>
 vcG v39 false (
 bindV (still (aFieldAddr Pg 57 x4 3) h40) fun v144 h145 =>
 bindV (aLoadV Pg h145 3 v144) fun v146 h147 =>
 bindV (still (aBin Pg .lss 3 v146 (V.int .i64 0) true) h147) fun v148 h149 =>
 Meet (Gz12 Q x1 x4 v39 v148 h149)) (Meet (Gz12 Q x1 x4 v39 hole h40))):=by kernel_rfl
theorem Gz10_eq (Q:AEnd→AH→Prop) (x1 x4 x40 x44:V) (h:AH):Gz10 Q x1 x4 x40 x44 h=(
 bindV (aPick x40 (V.bool true) x44 h) fun v37 h38 =>
 vcG v37 false (
 bindV (still (aFieldAddr Pg 57 x4 1) h38) fun v150 h151 =>
 bindV (aLoadV Pg h151 49 v150) fun v152 h153 =>
 bindV (still (aBin Pg .gtr 49 v152 (V.int .u64 2147483647) true) h153) fun v154 h155 =>
 Meet (Gz11 Q x1 x4 v37 v154 h155)) (Meet (Gz11 Q x1 x4 v37 hole h38))):=by kernel_rfl
theorem Gzz_eq (Q:AEnd→AH→Prop) (x1 x4 x35 x38:V) (h:AH):Gzz Q x1 x4 x35 x38 h=(
 bindV (aPick x35 (V.bool true) x38 h) fun v35 h36 =>
 vcG v35 false (
 bindV (still (aFieldAddr Pg 73 x1 4) h36) fun v156 h157 =>
 bindV (aLoadV Pg h157 71 v156) fun v158 h159 =>
 bindV (aBuiltin Pg h159 .len [71] [v158]) fun v160 h161 =>
 bindV (still (aBin Pg .gtr 3 v160 (V.int .i64 0) true) h161) fun v162 h163 =>
 Meet (Gz10 Q x1 x4 v35 v162 h163)) (Meet (Gz10 Q x1 x4 v35 hole h36))):=by kernel_rfl
theorem Jz3r_eq (Q:AEnd→AH→Prop) (n:Nat) (x1 x6 x7:V) (h:AH):Jz3r Q n x1 x6 x7 h=(
 bindV (still (aBin Pg .add 3 x7 (V.int .i64 1) true) h) fun v200 h201 =>
 Meet (Lz61 Q n x1 x6 v200 h201)):=by kernel_rfl
theorem Jz3q_eq (Q:AEnd→AH→Prop) (n:Nat) (x1 x6 x7:V) (h:AH):Jz3q Q n x1 x6 x7 h=(
 bindV (still (aFieldAddr Pg 73 x1 4) h) fun v190 h191 =>
 bindV (aLoadV Pg h191 71 v190) fun v192 h193 =>
 bindV (still (aIndexAddr Pg 71 v192 x7) h193) fun v194 h195 =>
 bindV (aLoadV Pg h195 4 v194) fun v196 h197 =>
 vcIf v196 (
 bindV (still (aBin Pg .add 9 x6 (V.str [49]) true) h197) fun v198 h199 =>
 Meet (Jz3r Q n x1 v198 x7 h199)) (
 bindV (still (aBin Pg .add 9 x6 (V.str [48]) true) h197) fun v202 h203 =>
 Meet (Jz3r Q n x1 v202 x7 h203))):=by kernel_rfl
theorem Jz3u_eq (Q:AEnd→AH→Prop) (x2 x3:V) (h:AH):Jz3u Q x2 x3 h=(
 Q (.ret (V.tup [x2,x3])) h):=by kernel_rfl
theorem Gz18_eq (Q:AEnd→AH→Prop) (x182 x186 x190:V) (h:AH):Gz18 Q x182 x186 x190 h=(
 bindO (fstV (aPick x186 x190 (V.bool false) h)) fun v217 =>
 Meet (Jz3u Q x182 v217 h)):=by kernel_rfl
theorem Jz3t_eq (Q:AEnd→AH→Prop) (x1 x6:V) (h:AH):Jz3t Q x1 x6 h=(
 bindO (fstV (still (aFieldAddr Pg 73 x1 1) h)) fun v214 =>
 bindO (fstV (aLoadV Pg h 3 v214)) fun v215 =>
 bindO (fstV (still (aBin Pg .eql 3 v215 (V.int .i64 0) true) h)) fun v216 =>
 vcG v216 true (
 bindO (fstV (still (aFieldAddr Pg 73 x1 4) h)) fun v218 =>
 bindO (fstV (aLoadV Pg h 71 v218)) fun v219 =>
 bindO (fstV (aBuiltin Pg h .len [71] [v219])) fun v220 =>
 bindO (fstV (still (aBin Pg .leq 3 v220 (V.int .i64 2000) true) h)) fun v221 =>
 Meet (Gz18 Q x6 v216 v221 h)) (Meet (Gz18 Q x6 v216 hole h))):=by kernel_rfl
theorem Jz3s_eq (Q:AEnd→AH→Prop) (x1 x6:V) (h:AH):Jz3s Q x1 x6 h=(
 bindV (still (aFieldAddr Pg 73 x1 4) h) fun v204 h205 =>
 bindV (aLoadV Pg h205 71 v204) fun v206 h207 =>
 bindV (aBuiltin Pg h207 .len [71] [v206]) fun v208 h209 =>
 bindV (still (aBin Pg .eql 3 v208 (V.int .i64 0) true) h209) fun v210 h211 =>
 vcIf v210 (
 bindV (still (aBin Pg .add 9 x6 (V.str [45]) true) h211) fun v212 h213 =>
 Meet (Jz3t Q x1 v212 h213)) (
 Meet (Jz3t Q x1 x6 h211))):=by kernel_rfl
theorem Lz61_eq (Q:AEnd→AH→Prop) (n:Nat) (x1 x6 x7:V) (h:AH):Lz61 Q (n + 1) x1 x6 x7 h=(
 bindV (still (aFieldAddr Pg 73 x1 4) h) fun v182 h183 =>
 bindV (aLoadV Pg h183 71 v182) fun v184 h185 =>
 bindV (aBuiltin Pg h185 .len [71] [v184]) fun v186 h187 =>
 bindV (still (aBin Pg .lss 3 x7 v186 false) h187) fun v188 h189 =>
 vcIf v188 (
 Meet (Jz3q Q n x1 x6 x7 h189)) (
 Meet (Jz3s Q x1 x6 h189))):=by kernel_rfl
theorem Jz3w_eq (Q:AEnd→AH→Prop) (x1 x8:V) (h:AH):Jz3w Q x1 x8 h=(
 bindO (fstV (still (aFieldAddr Pg 73 x1 1) h)) fun v228 =>
 bindO (fstV (aLoadV Pg h 3 v228)) fun v229 =>
 bindO (fstV (still (aConv Pg h 3 49 v229) h)) fun v230 =>
 ∃ v231,ACalls Pg 119 [v230] h (pureE v231 h)∧(
 bindO (fstV (still (aBin Pg .add 9 x8 v231 false) h)) fun v232 =>
 bindO (fstV (still (aFieldAddr Pg 73 x1 4) h)) fun v233 =>
 bindO (fstV (aLoadV Pg h 71 v233)) fun v234 =>
 bindO (fstV (aBuiltin Pg h .len [71] [v234])) fun v235 =>
 bindO (fstV (still (aBin Pg .eql 3 v235 (V.int .i64 0) true) h)) fun v236 =>
 Q (.ret (V.tup [v232,v236])) h)):=by kernel_rfl
theorem Jz3v_eq (Q:AEnd→AH→Prop) (x1:V) (h:AH):Jz3v Q x1 h=(
 bindV (still (aFieldAddr Pg 73 x1 0) h) fun v222 h223 =>
 bindV (aLoadV Pg h223 5 v222) fun v224 h225 =>
 bindV (still (aBin Pg .eql 5 v224 (V.int .u8 1) true) h225) fun v226 h227 =>
 vcIf v226 (
 Meet (Jz3w Q x1 (V.str [115,116,101,112,32]) h227)) (
 bindV (still (aBin Pg .eql 5 v224 (V.int .u8 2) true) h227) fun v237 h238 =>
 vcIf v237 (
 Meet (Jz3w Q x1 (V.str [114,111,117,110,100,32]) h238)) (
 bindV (still (aBin Pg .eql 5 v224 (V.int .u8 3) true) h238) fun v239 h240 =>
 vcIf v239 (
 Meet (Jz3w Q x1 (V.str [102,117,115,101,32]) h240)) (
 bindV (still (aBin Pg .eql 5 v224 (V.int .u8 4) true) h240) fun v241 h242 =>
 vcIf v241 (
 Meet (Jz3w Q x1 (V.str [102,97,105,108,32]) h242)) (
 bindV (still (aBin Pg .eql 5 v224 (V.int .u8 6) true) h242) fun v243 h244 =>
 vcIf v243 (
 Meet (Jz3w Q x1 (V.str [111,112,101,110,32]) h244)) (
 Meet (Jz3w Q x1 (V.str []) h244))))))):=by kernel_rfl
theorem Jz3p_eq (Q:AEnd→AH→Prop) (x1:V) (h:AH):Jz3p Q x1 h=(
 bindV (still (aFieldAddr Pg 73 x1 0) h) fun v176 h177 =>
 bindV (aLoadV Pg h177 5 v176) fun v178 h179 =>
 bindV (still (aBin Pg .eql 5 v178 (V.int .u8 5) true) h179) fun v180 h181 =>
 vcIf v180 (
 ∃ n,Meet (Lz61 Q n x1 (V.str [99,114,97,115,104,32]) (V.int .i64 0) h181)) (
 Meet (Jz3v Q x1 h181))):=by kernel_rfl
theorem Jz3o_eq (Q:AEnd→AH→Prop) (x1 x4:V) (h:AH):Jz3o Q x1 x4 h=(
 bindV (aLoadV Pg h 57 x4) fun v170 h171 =>
 bindV (still (aBuild Pg 57 []) h171) fun v172 h173 =>
 bindV (still (aBin Pg .neq 57 v170 v172 false) h173) fun v174 h175 =>
 vcIf v174 (
 Q (.ret (V.tup [(V.str []),(V.bool false)])) h175) (
 Meet (Jz3p Q x1 h175))):=by kernel_rfl
theorem Jz3h_eq (Q:AEnd→AH→Prop) (x1:V) (h:AH):Jz3h Q x1 h=(
 bindV (still (aFieldAddr Pg 73 x1 3) h) fun v15 h16 =>
 bindV (aLoadV Pg h16 57 v15) fun v17 h18 =>
 bindV (aAlloc Pg h18 57) fun v19 h20 =>
 bindV (aStoreV Pg h20 57 v19 v17) fun _ h22 =>
 bindV (still (aFieldAddr Pg 73 x1 0) h22) fun v23 h24 =>
 bindV (aLoadV Pg h24 5 v23) fun v25 h26 =>
 bindV (still (aBin Pg .eql 5 v25 (V.int .u8 0) true) h26) fun v27 h28 =>
 vcIf v27 (
 bindV (still (aFieldAddr Pg 73 x1 1) h28) fun v29 h30 =>
 bindV (aLoadV Pg h30 3 v29) fun v31 h32 =>
 bindV (still (aBin Pg .gtr 3 v31 (V.int .i64 9) true) h32) fun v33 h34 =>
 vcG v33 false (
 bindV (still (aFieldAddr Pg 57 v19 0) h34) fun v164 h165 =>
 bindV (aLoadV Pg h165 5 v164) fun v166 h167 =>
 bindV (still (aBin Pg .gtr 5 v166 (V.int .u8 7) true) h167) fun v168 h169 =>
 Meet (Gzz Q x1 v19 v33 v168 h169)) (Meet (Gzz Q x1 v19 v33 hole h34))) (
 Meet (Jz3o Q x1 v19 h28))):=by kernel_rfl
theorem Jz3g_eq (Q:AEnd→AH→Prop) (x1 x26:V) (h:AH):Jz3g Q x1 x26 h=(
 vcIf x26 (
 Q (.ret (V.tup [(V.str []),(V.bool false)])) h) (
 Meet (Jz3h Q x1 h))):=by kernel_rfl
theorem Gzy_eq (Q:AEnd→AH→Prop) (x1 x22 x25:V) (h:AH):Gzy Q x1 x22 x25 h=(
 bindV (aPick x22 (V.bool true) x25 h) fun v13 h14 =>
 Meet (Jz3g Q x1 v13 h14)):=by kernel_rfl
theorem Gzx_eq (Q:AEnd→AH→Prop) (x1 x17 x20:V) (h:AH):Gzx Q x1 x17 x20 h=(
 bindV (aPick x17 (V.bool true) x20 h) fun v11 h12 =>
 vcG v11 false (
 bindV (still (aFieldAddr Pg 73 x1 2) h12) fun v245 h246 =>
 bindV (aLoadV Pg h246 3 v245) fun v247 h248 =>
 bindV (still (aBin Pg .neq 3 v247 (V.int .i64 0) true) h248) fun v249 h250 =>
 Meet (Gzy Q x1 v11 v249 h250)) (Meet (Gzy Q x1 v11 hole h12))):=by kernel_rfl
theorem Gzw_eq (Q:AEnd→AH→Prop) (x1 x12 x15:V) (h:AH):Gzw Q x1 x12 x15 h=(
 bindV (aPick x12 (V.bool true) x15 h) fun v9 h10 =>
 vcG v9 false (
 bindV (still (aFieldAddr Pg 73 x1 1) h10) fun v251 h252 =>
 bindV (aLoadV Pg h252 3 v251) fun v253 h254 =>
 bindV (still (aBin Pg .gtr 3 v253 (V.int .i64 2147483647) true) h254) fun v255 h256 =>
 Meet (Gzx Q x1 v9 v255 h256)) (Meet (Gzx Q x1 v9 hole h10))):=by kernel_rfl
theorem S126 (Q:AEnd→AH→Prop) (a0:V) (h:AH):vc Pg N126 B126 K126 (vcRet Pg R126 Q) (initEnv 0 [a0]) h=(
 bindV (aNew Pg h 73 a0) fun v1 h2 =>
 bindV (still (aFieldAddr Pg 73 v1 0) h2) fun v3 h4 =>
 bindV (aLoadV Pg h4 5 v3) fun v5 h6 =>
 bindV (still (aBin Pg .gtr 5 v5 (V.int .u8 6) true) h6) fun v7 h8 =>
 vcG v7 false (
 bindV (still (aFieldAddr Pg 73 v1 1) h8) fun v257 h258 =>
 bindV (aLoadV Pg h258 3 v257) fun v259 h260 =>
 bindV (still (aBin Pg .lss 3 v259 (V.int .i64 0) true) h260) fun v261 h262 =>
 Meet (Gzw Q v1 v7 v261 h262)) (Meet (Gzw Q v1 v7 hole h8))):=by kernel_rfl
theorem C126 (Q:AEnd→AH→Prop) (a0:V) (h:AH) (c :
 bindV (aNew Pg h 73 a0) fun v1 h2 =>
 bindV (still (aFieldAddr Pg 73 v1 0) h2) fun v3 h4 =>
 bindV (aLoadV Pg h4 5 v3) fun v5 h6 =>
 bindV (still (aBin Pg .gtr 5 v5 (V.int .u8 6) true) h6) fun v7 h8 =>
 vcG v7 false (
 bindV (still (aFieldAddr Pg 73 v1 1) h8) fun v257 h258 =>
 bindV (aLoadV Pg h258 3 v257) fun v259 h260 =>
 bindV (still (aBin Pg .lss 3 v259 (V.int .i64 0) true) h260) fun v261 h262 =>
 Meet (Gzw Q v1 v7 v261 h262)) (Meet (Gzw Q v1 v7 hole h8))):ACalls Pg 126 [a0] h Q :=
 acalls_of_vc okP Tryz.func126 (show Tryz.f126.body=some B126 from by kernel_rfl) K126 (by rw [← S126 Q a0 h] at c;exact c)
noncomputable def B195:Code:=(Tryz.f195.body).getD .skip
def R195:List ResultVar:=[.tmp 2]
abbrev N195:Nat:=31
def K195:KT:=(.seq .leaf (.seq .leaf (.seq .leaf (.join (.seq .leaf (.one (.loop (.join (.seq .leaf (.two .leaf .leaf) [0,3,4,5,9]) (.join (.one (.seq .leaf (.two (.seq .leaf .leaf [0,3,5]) .leaf) [0,3,4,5,15])) .leaf [0,3,4,5]) [0,3,4,5]) [0,3,4,5])) [0,3,4,5]) (.seq .leaf .leaf [2]) [3,4]) [0,3,4]) [0,3]) [0])
def Jz4d (Q:AEnd→AH→Prop) (n:Nat) (x0 x3 x4 x5:V) (h:AH):Prop:=vcAt Pg N195 B195 K195 [1,1,1,0,1,0,0,1,1] [n] (vcRet Pg R195 Q) [(0,x0),(3,x3),(4,x4),(5,x5)] h
def Jz4c (Q:AEnd→AH→Prop) (n:Nat) (x0 x3 x4 x5:V) (h:AH):Prop:=vcAt Pg N195 B195 K195 [1,1,1,0,1,0,0,1] [n] (vcRet Pg R195 Q) [(0,x0),(3,x3),(4,x4),(5,x5)] h
def Jz4e (Q:AEnd→AH→Prop) (x3 x4:V) (h:AH):Prop:=vcAt Pg N195 B195 K195 [1,1,1,1] [] (vcRet Pg R195 Q) [(3,x3),(4,x4)] h
def Lz64 (Q:AEnd→AH→Prop) (n:Nat) (x0 x3 x4 x5:V) (h:AH):Prop:=loopAt Pg N195 B195 K195 [1,1,1,0,1,0] [] n (vcRet Pg R195 Q) [(0,x0),(3,x3),(4,x4),(5,x5)] h
theorem Jz4d_eq (Q:AEnd→AH→Prop) (n:Nat) (x0 x3 x4 x5:V) (h:AH):Jz4d Q n x0 x3 x4 x5 h=(
 bindV (still (aBin Pg .add 3 x5 (V.int .i64 1) true) h) fun v13 h14 =>
 Meet (Lz64 Q n x0 x3 x4 v13 h14)):=by kernel_rfl
theorem Jz4c_eq (Q:AEnd→AH→Prop) (n:Nat) (x0 x3 x4 x5:V) (h:AH):Jz4c Q n x0 x3 x4 x5 h=(
 bindV (still (aIndex Pg 9 x0 x5) h) fun v5 h6 =>
 bindV (still (aBin Pg .eql 5 v5 (V.int .u8 32) true) h6) fun v7 h8 =>
 vcIf v7 (
 bindV (aBuildSlice Pg h8 337 1 [(0,x4)]) fun v9 h10 =>
 bindV (aBuiltin Pg h10 .append [337,337] [x3,v9]) fun v11 h12 =>
 Meet (Jz4d Q n x0 v11 (V.str []) x5 h12)) (
 bindV (still (aBin Pg .add 3 x5 (V.int .i64 1) true) h8) fun v15 h16 =>
 bindV (still (aSlice Pg h16 9 x0 (some x5) (some v15)) h16) fun v17 h18 =>
 bindV (still (aBin Pg .add 9 x4 v17 false) h18) fun v19 h20 =>
 Meet (Jz4d Q n x0 x3 v19 x5 h20))):=by kernel_rfl
theorem Jz4e_eq (Q:AEnd→AH→Prop) (x3 x4:V) (h:AH):Jz4e Q x3 x4 h=(
 bindV (aBuildSlice Pg h 337 1 [(0,x4)]) fun v21 h22 =>
 bindV (aBuiltin Pg h22 .append [337,337] [x3,v21]) fun v23 h24 =>
 Q (.ret v23) h24):=by kernel_rfl
theorem Lz64_eq (Q:AEnd→AH→Prop) (n:Nat) (x0 x3 x4 x5:V) (h:AH):Lz64 Q (n + 1) x0 x3 x4 x5 h=(
 bindV (aBuiltin Pg h .len [9] [x0]) fun v1 h2 =>
 bindV (still (aBin Pg .lss 3 x5 v1 false) h2) fun v3 h4 =>
 vcIf v3 (
 Meet (Jz4c Q n x0 x3 x4 x5 h4)) (
 Meet (Jz4e Q x3 x4 h4))):=by kernel_rfl
theorem S195 (Q:AEnd→AH→Prop) (a0:V) (h:AH):vc Pg N195 B195 K195 (vcRet Pg R195 Q) (initEnv 0 [a0]) h=(
 ∃ n,Meet (Lz64 Q n a0 (V.slc none 0) (V.str []) (V.int .i64 0) h)):=by kernel_rfl
theorem C195 (Q:AEnd→AH→Prop) (a0:V) (h:AH) (c :
 ∃ n,Meet (Lz64 Q n a0 (V.slc none 0) (V.str []) (V.int .i64 0) h)):ACalls Pg 195 [a0] h Q :=
 acalls_of_vc okP Tryz.func195 (show Tryz.f195.body=some B195 from by kernel_rfl) K195 (by rw [← S195 Q a0 h] at c;exact c)
noncomputable def B196:Code:=(Tryz.f196.body).getD .skip
def R196:List ResultVar:=[.tmp 4]
abbrev N196:Nat:=38
def K196:KT:=(.seq .leaf (.seq .leaf (.join (.seq .leaf (.one (.loop (.join (.join (.reg [[0,1,5,6,11,18],[0,1,5,6,20,22]]) (.two .leaf .leaf) [0,1,5,6,23]) (.join (.one .leaf) .leaf [0,1,5,6]) [0,1,5,6]) [0,1,5,6])) [0,1,5,6]) (.seq .leaf .leaf [4]) [5]) [0,1,5]) [0,1])
def Jz4h (Q:AEnd→AH→Prop) (n:Nat) (x0 x1 x5 x6:V) (h:AH):Prop:=vcAt Pg N196 B196 K196 [1,1,0,1,0,0,1,1] [n] (vcRet Pg R196 Q) [(0,x0),(1,x1),(5,x5),(6,x6)] h
def Jz4g (Q:AEnd→AH→Prop) (n:Nat) (x0 x1 x5 x6:V) (h:AH):Prop:=vcAt Pg N196 B196 K196 [1,1,0,1,0,0,1] [n] (vcRet Pg R196 Q) [(0,x0),(1,x1),(5,x5),(6,x6)] h
def Jz4i (Q:AEnd→AH→Prop) (x5:V) (h:AH):Prop:=vcAt Pg N196 B196 K196 [1,1,1] [] (vcRet Pg R196 Q) [(5,x5)] h
def Jz4f (Q:AEnd→AH→Prop) (n:Nat) (x0 x1 x5 x6 x23:V) (h:AH):Prop:=vcAt Pg N196 B196 K196 [1,1,0,1,0,0,0,1] [n] (vcRet Pg R196 Q) [(0,x0),(1,x1),(5,x5),(6,x6),(23,x23)] h
def Gz1i (Q:AEnd→AH→Prop) (n:Nat) (x0 x1 x5 x6 x20 x22:V) (h:AH):Prop:=segAt Pg N196 B196 K196 [1,1,0,1,0,0,0,0] 4 2 [n] (vcRet Pg R196 Q) [(0,x0),(1,x1),(5,x5),(6,x6),(20,x20),(22,x22)] h
def Gz1h (Q:AEnd→AH→Prop) (n:Nat) (x0 x1 x5 x6 x11 x18:V) (h:AH):Prop:=segAt Pg N196 B196 K196 [1,1,0,1,0,0,0,0] 2 1 [n] (vcRet Pg R196 Q) [(0,x0),(1,x1),(5,x5),(6,x6),(11,x11),(18,x18)] h
def Lz65 (Q:AEnd→AH→Prop) (n:Nat) (x0 x1 x5 x6:V) (h:AH):Prop:=loopAt Pg N196 B196 K196 [1,1,0,1,0] [] n (vcRet Pg R196 Q) [(0,x0),(1,x1),(5,x5),(6,x6)] h
theorem Jz4h_eq (Q:AEnd→AH→Prop) (n:Nat) (x0 x1 x5 x6:V) (h:AH):Jz4h Q n x0 x1 x5 x6 h=(
 bindV (still (aBin Pg .add 3 x6 (V.int .i64 1) true) h) fun v23 h24 =>
 Meet (Lz65 Q n x0 x1 x5 v23 h24)):=by kernel_rfl
theorem Jz4g_eq (Q:AEnd→AH→Prop) (n:Nat) (x0 x1 x5 x6:V) (h:AH):Jz4g Q n x0 x1 x5 x6 h=(
 bindV (still (aBin Pg .mul 3 x5 (V.int .i64 10) true) h) fun v9 h10 =>
 bindV (still (aIndexAddr Pg 337 x0 x1) h10) fun v11 h12 =>
 bindV (aLoadV Pg h12 9 v11) fun v13 h14 =>
 bindV (still (aIndex Pg 9 v13 x6) h14) fun v15 h16 =>
 bindV (still (aConv Pg h16 5 3 v15) h16) fun v17 h18 =>
 bindV (still (aBin Pg .add 3 v9 v17 false) h18) fun v19 h20 =>
 bindV (still (aBin Pg .sub 3 v19 (V.int .i64 48) true) h20) fun v21 h22 =>
 Meet (Jz4h Q n x0 x1 v21 x6 h22)):=by kernel_rfl
theorem Jz4i_eq (Q:AEnd→AH→Prop) (x5:V) (h:AH):Jz4i Q x5 h=(
 Q (.ret x5) h):=by kernel_rfl
theorem Jz4f_eq (Q:AEnd→AH→Prop) (n:Nat) (x0 x1 x5 x6 x23:V) (h:AH):Jz4f Q n x0 x1 x5 x6 x23 h=(
 vcIf x23 (
 Meet (Jz4g Q n x0 x1 x5 x6 h)) (
 Meet (Jz4i Q x5 h))):=by kernel_rfl
theorem Gz1i_eq (Q:AEnd→AH→Prop) (n:Nat) (x0 x1 x5 x6 x20 x22:V) (h:AH):Gz1i Q n x0 x1 x5 x6 x20 x22 h=(
 bindV (aPick x20 x22 (V.bool false) h) fun v7 h8 =>
 Meet (Jz4f Q n x0 x1 x5 x6 v7 h8)):=by kernel_rfl
theorem Gz1h_eq (Q:AEnd→AH→Prop) (n:Nat) (x0 x1 x5 x6 x11 x18:V) (h:AH):Gz1h Q n x0 x1 x5 x6 x11 x18 h=(
 bindV (aPick x11 x18 (V.bool false) h) fun v5 h6 =>
 vcG v5 true (
 bindV (still (aBin Pg .lss 3 x6 (V.int .i64 12) true) h6) fun v25 h26 =>
 Meet (Gz1i Q n x0 x1 x5 x6 v5 v25 h26)) (Meet (Gz1i Q n x0 x1 x5 x6 v5 hole h6))):=by kernel_rfl
theorem Lz65_eq (Q:AEnd→AH→Prop) (n:Nat) (x0 x1 x5 x6:V) (h:AH):Lz65 Q (n + 1) x0 x1 x5 x6 h=(
 bindV (aBuiltin Pg h .len [337] [x0]) fun v1 h2 =>
 bindV (still (aBin Pg .lss 3 x1 v1 false) h2) fun v3 h4 =>
 vcG v3 true (
 bindV (still (aIndexAddr Pg 337 x0 x1) h4) fun v27 h28 =>
 bindV (aLoadV Pg h28 9 v27) fun v29 h30 =>
 bindV (aBuiltin Pg h30 .len [9] [v29]) fun v31 h32 =>
 bindV (still (aBin Pg .lss 3 x6 v31 false) h32) fun v33 h34 =>
 Meet (Gz1h Q n x0 x1 x5 x6 v3 v33 h34)) (Meet (Gz1h Q n x0 x1 x5 x6 v3 hole h4))):=by kernel_rfl
theorem S196 (Q:AEnd→AH→Prop) (a0 a1:V) (h:AH):vc Pg N196 B196 K196 (vcRet Pg R196 Q) (initEnv 0 [a0,a1]) h=(
 ∃ n,Meet (Lz65 Q n a0 a1 (V.int .i64 0) (V.int .i64 0) h)):=by kernel_rfl
theorem C196 (Q:AEnd→AH→Prop) (a0 a1:V) (h:AH) (c :
 ∃ n,Meet (Lz65 Q n a0 a1 (V.int .i64 0) (V.int .i64 0) h)):ACalls Pg 196 [a0,a1] h Q :=
 acalls_of_vc okP Tryz.func196 (show Tryz.f196.body=some B196 from by kernel_rfl) K196 (by rw [← S196 Q a0 a1 h] at c;exact c)
noncomputable def B197:Code:=(Tryz.f197.body).getD .skip
def R197:List ResultVar:=[.tmp 4]
abbrev N197:Nat:=74
def K197:KT:=(.seq .leaf (.join (.join (.reg [[0,1,14,19],[0,1,21,27]]) (.two (.seq .leaf .leaf [4]) .leaf) [0,1,28]) (.seq .leaf (.join (.seq .leaf (.one (.loop (.join (.seq .leaf (.two .leaf .leaf) [0,1,5,6,36]) (.join (.one (.seq .leaf (.join (.seq (.eff [13]) (.one (.loop (.seq .leaf (.join (.two .leaf .leaf) (.join (.one (.seq .leaf (.join (.seq .leaf (.two .leaf .leaf) [0,1,5,6,7,9,52,53,54,59]) .leaf [0,1,5,6,7,9,52,53,54]) [0,1,5,6,7,9,52,53,54])) .leaf [0,1,5,6,7,52,53,54]) [0,1,5,6,7,52,53,54]) [0,1,5,6,7,52,53,54,55]) [0,1,5,6,7,52,53,54])) [0,1,5,6,7,52,53,54]) .leaf [0,1,5,6,7]) [0,1,5,6,7])) .leaf [0,1,5,6]) [0,1,5,6]) [0,1,5,6])) [0,1,5,6]) (.seq .leaf .leaf [4]) [5]) [0,1,5]) [0,1]) [0,1])
def Jz4o (Q:AEnd→AH→Prop) (n n1:Nat) (x0 x1 x5 x6 x7 x52 x53 x54:V) (h:AH):Prop:=vcAt Pg N197 B197 K197 [1,1,1,0,1,0,0,1,0,0,1,0,1,0,0,1,1,1] [n,n1] (vcRet Pg R197 Q) [(0,x0),(1,x1),(5,x5),(6,x6),(7,x7),(52,x52),(53,x53),(54,x54)] h
def Jz4n (Q:AEnd→AH→Prop) (n n1:Nat) (x0 x1 x5 x6 x7 x9 x52 x53 x54:V) (h:AH):Prop:=vcAt Pg N197 B197 K197 [1,1,1,0,1,0,0,1,0,0,1,0,1,0,0,1,1,0,0,1,1] [n,n1] (vcRet Pg R197 Q) [(0,x0),(1,x1),(5,x5),(6,x6),(7,x7),(9,x9),(52,x52),(53,x53),(54,x54)] h
def Jz4m (Q:AEnd→AH→Prop) (n n1:Nat) (x0 x1 x5 x6 x7 x52 x53 x54:V) (h:AH):Prop:=vcAt Pg N197 B197 K197 [1,1,1,0,1,0,0,1,0,0,1,0,1,0,0,1,1] [n,n1] (vcRet Pg R197 Q) [(0,x0),(1,x1),(5,x5),(6,x6),(7,x7),(52,x52),(53,x53),(54,x54)] h
def Jz4q (Q:AEnd→AH→Prop) (n:Nat) (x0 x1 x5 x6:V) (h:AH):Prop:=vcAt Pg N197 B197 K197 [1,1,1,0,1,0,0,1,1] [n] (vcRet Pg R197 Q) [(0,x0),(1,x1),(5,x5),(6,x6)] h
def Jz4p (Q:AEnd→AH→Prop) (n:Nat) (x0 x1 x5 x6 x7:V) (h:AH):Prop:=vcAt Pg N197 B197 K197 [1,1,1,0,1,0,0,1,0,0,1,1] [n] (vcRet Pg R197 Q) [(0,x0),(1,x1),(5,x5),(6,x6),(7,x7)] h
def Lz67 (Q:AEnd→AH→Prop) (n:Nat) (n1:Nat) (x0 x1 x5 x6 x7 x52 x53 x54:V) (h:AH):Prop:=loopAt Pg N197 B197 K197 [1,1,1,0,1,0,0,1,0,0,1,0,1,0] [n] n1 (vcRet Pg R197 Q) [(0,x0),(1,x1),(5,x5),(6,x6),(7,x7),(52,x52),(53,x53),(54,x54)] h
def Jz4l (Q:AEnd→AH→Prop) (n:Nat) (x0 x1 x5 x6:V) (h:AH):Prop:=vcAt Pg N197 B197 K197 [1,1,1,0,1,0,0,1] [n] (vcRet Pg R197 Q) [(0,x0),(1,x1),(5,x5),(6,x6)] h
def Jz4r (Q:AEnd→AH→Prop) (x5:V) (h:AH):Prop:=vcAt Pg N197 B197 K197 [1,1,1,1] [] (vcRet Pg R197 Q) [(5,x5)] h
def Lz66 (Q:AEnd→AH→Prop) (n:Nat) (x0 x1 x5 x6:V) (h:AH):Prop:=loopAt Pg N197 B197 K197 [1,1,1,0,1,0] [] n (vcRet Pg R197 Q) [(0,x0),(1,x1),(5,x5),(6,x6)] h
def Jz4k (Q:AEnd→AH→Prop) (x0 x1:V) (h:AH):Prop:=vcAt Pg N197 B197 K197 [1,1] [] (vcRet Pg R197 Q) [(0,x0),(1,x1)] h
def Jz4j (Q:AEnd→AH→Prop) (x0 x1 x28:V) (h:AH):Prop:=vcAt Pg N197 B197 K197 [1,0,1] [] (vcRet Pg R197 Q) [(0,x0),(1,x1),(28,x28)] h
def Gz1k (Q:AEnd→AH→Prop) (x0 x1 x21 x27:V) (h:AH):Prop:=segAt Pg N197 B197 K197 [1,0,0] 4 2 [] (vcRet Pg R197 Q) [(0,x0),(1,x1),(21,x21),(27,x27)] h
def Gz1j (Q:AEnd→AH→Prop) (x0 x1 x14 x19:V) (h:AH):Prop:=segAt Pg N197 B197 K197 [1,0,0] 2 1 [] (vcRet Pg R197 Q) [(0,x0),(1,x1),(14,x14),(19,x19)] h
theorem Jz4o_eq (Q:AEnd→AH→Prop) (n n1:Nat) (x0 x1 x5 x6 x7 x52 x53 x54:V) (h:AH):Jz4o Q n n1 x0 x1 x5 x6 x7 x52 x53 x54 h=(
 bindV (still (aBin Pg .add 3 x54 (V.int .i64 1) true) h) fun v45 h46 =>
 Meet (Lz67 Q n n1 x0 x1 x5 x6 x7 x52 x53 v45 h46)):=by kernel_rfl
theorem Jz4n_eq (Q:AEnd→AH→Prop) (n n1:Nat) (x0 x1 x5 x6 x7 x9 x52 x53 x54:V) (h:AH):Jz4n Q n n1 x0 x1 x5 x6 x7 x9 x52 x53 x54 h=(
 bindV (still (aBin Pg .mul 5 x7 (V.int .u8 16) true) h) fun v39 h40 =>
 bindV (still (aBin Pg .sub 5 x9 (V.int .u8 48) true) h40) fun v41 h42 =>
 bindV (still (aBin Pg .add 5 v39 v41 false) h42) fun v43 h44 =>
 Meet (Jz4o Q n n1 x0 x1 x5 x6 v43 x52 x53 x54 h44)):=by kernel_rfl
theorem Jz4m_eq (Q:AEnd→AH→Prop) (n n1:Nat) (x0 x1 x5 x6 x7 x52 x53 x54:V) (h:AH):Jz4m Q n n1 x0 x1 x5 x6 x7 x52 x53 x54 h=(
 bindV (still (aIndexAddr Pg 207 x52 x54) h) fun v31 h32 =>
 bindV (aLoadV Pg h32 5 v31) fun v33 h34 =>
 bindV (still (aBin Pg .geq 5 v33 (V.int .u8 97) true) h34) fun v35 h36 =>
 vcIf v35 (
 bindV (still (aBin Pg .sub 5 v33 (V.int .u8 39) true) h36) fun v37 h38 =>
 Meet (Jz4n Q n n1 x0 x1 x5 x6 x7 v37 x52 x53 x54 h38)) (
 Meet (Jz4n Q n n1 x0 x1 x5 x6 x7 v33 x52 x53 x54 h36))):=by kernel_rfl
theorem Jz4q_eq (Q:AEnd→AH→Prop) (n:Nat) (x0 x1 x5 x6:V) (h:AH):Jz4q Q n x0 x1 x5 x6 h=(
 bindV (still (aBin Pg .add 3 x6 (V.int .i64 2) true) h) fun v51 h52 =>
 Meet (Lz66 Q n x0 x1 x5 v51 h52)):=by kernel_rfl
theorem Jz4p_eq (Q:AEnd→AH→Prop) (n:Nat) (x0 x1 x5 x6 x7:V) (h:AH):Jz4p Q n x0 x1 x5 x6 x7 h=(
 bindV (aBuildSlice Pg h 207 1 [(0,x7)]) fun v47 h48 =>
 bindV (aBuiltin Pg h48 .append [207,207] [x5,v47]) fun v49 h50 =>
 Meet (Jz4q Q n x0 x1 v49 x6 h50)):=by kernel_rfl
theorem Lz67_eq (Q:AEnd→AH→Prop) (n:Nat) (n1:Nat) (x0 x1 x5 x6 x7 x52 x53 x54:V) (h:AH):Lz67 Q n (n1 + 1) x0 x1 x5 x6 x7 x52 x53 x54 h=(
 bindV (still (aBin Pg .lss 3 x54 x53 false) h) fun v29 h30 =>
 vcIf v29 (
 Meet (Jz4m Q n n1 x0 x1 x5 x6 x7 x52 x53 x54 h30)) (
 Meet (Jz4p Q n x0 x1 x5 x6 x7 h30))):=by kernel_rfl
theorem Jz4l_eq (Q:AEnd→AH→Prop) (n:Nat) (x0 x1 x5 x6:V) (h:AH):Jz4l Q n x0 x1 x5 x6 h=(
 bindO (fstV (still (aIndexAddr Pg 337 x0 x1) h)) fun v19 =>
 bindO (fstV (aLoadV Pg h 9 v19)) fun v20 =>
 (
 bindO (fstV (still (aIndex Pg 9 v20 x6) h)) fun v21 =>
 bindO (fstV (still (aIndexAddr Pg 337 x0 x1) h)) fun v22 =>
 bindO (fstV (aLoadV Pg h 9 v22)) fun v23 =>
 (
 bindO (fstV (still (aBin Pg .add 3 x6 (V.int .i64 1) true) h)) fun v24 =>
 bindO (fstV (still (aIndex Pg 9 v23 v24) h)) fun v25 =>
 bindV (aBuildSlice Pg h 207 2 [(0,v21),(1,v25)]) fun v26 h27=>(
 bindO (fstV (aBuiltin Pg h27 .len [207] [v26])) fun v28 =>
 (
 ∃ n1,Meet (Lz67 Q n n1 x0 x1 x5 x6 (V.int .u8 0) v26 v28 (V.int .i64 0) h27)))))):=by kernel_rfl
theorem Jz4r_eq (Q:AEnd→AH→Prop) (x5:V) (h:AH):Jz4r Q x5 h=(
 bindV (still (aConv Pg h 207 9 x5) h) fun v53 h54 =>
 Q (.ret v53) h54):=by kernel_rfl
theorem Lz66_eq (Q:AEnd→AH→Prop) (n:Nat) (x0 x1 x5 x6:V) (h:AH):Lz66 Q (n + 1) x0 x1 x5 x6 h=(
 bindV (still (aBin Pg .add 3 x6 (V.int .i64 1) true) h) fun v9 h10 =>
 bindV (still (aIndexAddr Pg 337 x0 x1) h10) fun v11 h12 =>
 bindV (aLoadV Pg h12 9 v11) fun v13 h14 =>
 bindV (aBuiltin Pg h14 .len [9] [v13]) fun v15 h16 =>
 bindV (still (aBin Pg .lss 3 v9 v15 false) h16) fun v17 h18 =>
 vcIf v17 (
 Meet (Jz4l Q n x0 x1 x5 x6 h18)) (
 Meet (Jz4r Q x5 h18))):=by kernel_rfl
theorem Jz4k_eq (Q:AEnd→AH→Prop) (x0 x1:V) (h:AH):Jz4k Q x0 x1 h=(
 ∃ n,Meet (Lz66 Q n x0 x1 (V.slc none 0) (V.int .i64 0) h)):=by kernel_rfl
theorem Jz4j_eq (Q:AEnd→AH→Prop) (x0 x1 x28:V) (h:AH):Jz4j Q x0 x1 x28 h=(
 vcIf x28 (
 Q (.ret (V.str [])) h) (
 Meet (Jz4k Q x0 x1 h))):=by kernel_rfl
theorem Gz1k_eq (Q:AEnd→AH→Prop) (x0 x1 x21 x27:V) (h:AH):Gz1k Q x0 x1 x21 x27 h=(
 bindV (aPick x21 (V.bool true) x27 h) fun v7 h8 =>
 Meet (Jz4j Q x0 x1 v7 h8)):=by kernel_rfl
theorem Gz1j_eq (Q:AEnd→AH→Prop) (x0 x1 x14 x19:V) (h:AH):Gz1j Q x0 x1 x14 x19 h=(
 bindV (aPick x14 (V.bool true) x19 h) fun v5 h6 =>
 vcG v5 false (
 bindV (still (aIndexAddr Pg 337 x0 x1) h6) fun v55 h56 =>
 bindV (aLoadV Pg h56 9 v55) fun v57 h58 =>
 bindV (aBuiltin Pg h58 .len [9] [v57]) fun v59 h60 =>
 bindV (still (aBin Pg .gtr 3 v59 (V.int .i64 128) true) h60) fun v61 h62 =>
 Meet (Gz1k Q x0 x1 v5 v61 h62)) (Meet (Gz1k Q x0 x1 v5 hole h6))):=by kernel_rfl
theorem S197 (Q:AEnd→AH→Prop) (a0 a1:V) (h:AH):vc Pg N197 B197 K197 (vcRet Pg R197 Q) (initEnv 0 [a0,a1]) h=(
 bindV (aBuiltin Pg h .len [337] [a0]) fun v1 h2 =>
 bindV (still (aBin Pg .geq 3 a1 v1 false) h2) fun v3 h4 =>
 vcG v3 false (
 bindV (still (aIndexAddr Pg 337 a0 a1) h4) fun v63 h64 =>
 bindV (aLoadV Pg h64 9 v63) fun v65 h66 =>
 bindV (still (aBin Pg .eql 9 v65 (V.str [45]) true) h66) fun v67 h68 =>
 Meet (Gz1j Q a0 a1 v3 v67 h68)) (Meet (Gz1j Q a0 a1 v3 hole h4))):=by kernel_rfl
theorem C197 (Q:AEnd→AH→Prop) (a0 a1:V) (h:AH) (c :
 bindV (aBuiltin Pg h .len [337] [a0]) fun v1 h2 =>
 bindV (still (aBin Pg .geq 3 a1 v1 false) h2) fun v3 h4 =>
 vcG v3 false (
 bindV (still (aIndexAddr Pg 337 a0 a1) h4) fun v63 h64 =>
 bindV (aLoadV Pg h64 9 v63) fun v65 h66 =>
 bindV (still (aBin Pg .eql 9 v65 (V.str [45]) true) h66) fun v67 h68 =>
 Meet (Gz1j Q a0 a1 v3 v67 h68)) (Meet (Gz1j Q a0 a1 v3 hole h4))):ACalls Pg 197 [a0,a1] h Q :=
 acalls_of_vc okP Tryz.func197 (show Tryz.f197.body=some B197 from by kernel_rfl) K197 (by rw [← S197 Q a0 a1 h] at c;exact c)
end Go.Proofs.YtcglbpjpbjaecaaGreat.Sh
namespace Go.Proofs.YtcglbpjpbjaecaaGreat.Sh
open Go Go.Ab Go.RowKit
open Go.Proofs.YtcglbpjpbjaecaaGreat.Ru (Pg okP)
set_option maxRecDepth 10000
def Ev.pre (e:Ev):Prop :=
 e.kind < 7∧0≤e.a∧e.a < 2147483648∧e.b=0 ∧
 (e.kind≠0→e.ck=0∧e.txn=0∧e.page=0∧e.off=0∧e.s.length=0) ∧
 (e.kind=0→e.a < 10∧e.ck < 8∧e.keep.length=0∧e.txn < 2147483648∧0≤e.off∧e.off < 2147483648∧e.s.length≤64)
instance (e:Ev):Decidable e.pre:=by unfold Ev.pre;infer_instance
theorem fine_pre {e:Ev} (h:e.fine):e.pre:=by unfold Ev.fine at h;unfold Ev.pre;omega
def Ev.lineR (e:Ev):V:=.tup [.str (if e.pre then e.txt else []),.bool (decide e.fine)]
theorem lineR_mk {e:Ev} {t:List UInt8} {b:Bool} (hp:e.pre) (ht:t=e.txt) (hb:b=decide e.fine):V.tup [.str t,.bool b]=e.lineR:=by rw [Ev.lineR,if_pos hp,ht,hb]
theorem lineR_no {e:Ev} (hp:¬ e.pre):V.tup [.str [],.bool false]=e.lineR:=by rw [Ev.lineR,if_neg hp,decide_eq_false fun h=>hp (fine_pre h)]
theorem eqd (x y:Int):(x == y)=decide (x=y):=by by_cases h:x=y <;> simp [h]
theorem eqs (s:List UInt8):(s == [])=decide (s.length=0):=by cases s <;> simp
theorem NameN (n:Nat) (h:AH):ACalls Pg 120 [.int .u8 n] h (pureE (.str (nameOf n)) h):=NameP n (by omega) h
theorem NumN (n:Nat) (hn:n < 18446744073709551616) (h:AH):ACalls Pg 119 [.int .u64 n] h (pureE (.str (dec n)) h):=NumP n (by omega) (by omega) h
def cK (e:Ev):V:=.agg [.int .u8 e.ck,.int .u64 0,.int .u16 0,.int .i64 0,.str []]
theorem eq57k (e:Ev) (c:Bool):aBin Pg .eql 57 (cV e) (cK e) c=some (.bool (decide (e.txn=0∧e.page=0∧e.off=0∧e.s.length=0))):=by
 have h1:aBin Pg .eql 57 (cV e) (cK e) c=if eqOk Pg 57 (cV e) (cK e) c=true then (aEq Pg 57 (cV e) (cK e)).map .bool else none:=rfl
 have h2:eqOk Pg 57 (cV e) (cK e) c=true:=by kernel_rfl
 have h3:plainT Pg 20 57=true:=by kernel_rfl
 rw [h1,h2,if_pos rfl]
 unfold aEq
 have hz:hasShape Pg (cK e) 57=true:=by kernel_rfl
 rw [h3,if_pos rfl,s57 e,hz]
 simp only [Bool.and_self,if_true]
 have:beqV (cV e) (cK e)=some (decide (e.txn=0∧e.page=0∧e.off=0∧e.s.length=0)):=by
   obtain ⟨kind,a,b,ck,txn,page,off,s,keep⟩:=e
   simp only [cV,cK,beqV,beqVs,if_true]
   clear h1 h2 h3 hz
   simp only [eqd]
   by_cases k2:txn=0 <;> by_cases k3:page=0 <;> by_cases k4:off=0 <;> cases s <;> simp [k2,k3,k4]
 rw [this];rfl
theorem build57k (e:Ev):aBuild Pg 57 [(0,.int .u8 e.ck)]=some (cK e):=by kernel_rfl
section
variable (e:Ev) (ok:e.ok) {v:V} {h0:AH} {n1 n6 n8:Nat} {h:AH} {k:V}
include ok
theorem Rask (hA:e.kind=0∧0≤e.a∧e.a < 10∧e.b=0∧e.keep.length=0∧e.ck < 8∧e.txn < 2147483648∧0≤e.off∧e.off < 2147483648∧e.s.length≤64) (hv:e.lineR=v) (hn:h0.next≤h.next) (fr:∀ n,n < h0.next→h.m n=h0.m n) (hm1:h.m n1=some (.cells true (.one 73) (evV e k))) (hn1:n1 < h.next∧h0.next≤n1) (hm6:h.m n6=some (.cells true (.one 57) (cV e))) (hn6:n6 < h.next∧h0.next≤n6):Jz3j (Ends v h0) (.ptr (some ⟨n1,.one 73,[]⟩)) (.ptr (some ⟨n6,.one 57,[]⟩)) h:=by
 have k1:=ok.kind;have k2:=ok.a;have k3:=ok.b;have k4:=ok.ck;have k5:=ok.txn;have k6:=ok.page;have k7:=ok.off;have k8:=ok.s;have k9:=ok.keep
 rw [Jz3j_eq]
 refine bindSO_mk (fa_mk (by kernel_rfl)) ?_
 refine bindVO_mk (ld_mk hm1 (by kernel_rfl) rfl) ?_
 refine bindSO_mk (cv_wr (d:=49) (k:=.u64) (by kernel_rfl) (wr_u64 (by omega) (by omega))) ?_
 refine ⟨_,NumP _ (by omega) (by omega) _,?_⟩
 refine bindSO_mk (t_add (by have l1:=name_len e.ck;have l2:=dec_len20 (n:=e.a.toNat) (by omega);have l3:=dec_len20 (n:=e.txn) (by omega);have l4:=dec_len20 (n:=e.page) (by omega);have l5:=dec_len20 (n:=e.off.toNat) (by omega);have l6:=hexS_len e.s;simp only [List.length_append,List.length_cons,List.length_nil];omega)) ?_
 refine bindSO_mk (t_add (by have l1:=name_len e.ck;have l2:=dec_len20 (n:=e.a.toNat) (by omega);have l3:=dec_len20 (n:=e.txn) (by omega);have l4:=dec_len20 (n:=e.page) (by omega);have l5:=dec_len20 (n:=e.off.toNat) (by omega);have l6:=hexS_len e.s;simp only [List.length_append,List.length_cons,List.length_nil];omega)) ?_
 refine bindSO_mk (fa_mk (by kernel_rfl)) ?_
 refine bindVO_mk (ld_mk hm6 (by kernel_rfl) rfl) ?_
 refine ⟨_,NameN _ _,?_⟩
 refine bindSO_mk (t_add (by have l1:=name_len e.ck;have l2:=dec_len20 (n:=e.a.toNat) (by omega);have l3:=dec_len20 (n:=e.txn) (by omega);have l4:=dec_len20 (n:=e.page) (by omega);have l5:=dec_len20 (n:=e.off.toNat) (by omega);have l6:=hexS_len e.s;simp only [List.length_append,List.length_cons,List.length_nil];omega)) ?_
 refine bindS_mk (fa_mk (by kernel_rfl)) ?_
 refine bindV_mk (ld_mk hm6 (by kernel_rfl) rfl) ?_
 refine bindS_mk (b_eql) ?_
 refine i_split (fun c1=>?_) (fun c1=>?_)
 · try rw [c1]
   replace c1:=eq_of_beq c1
   refine bindSO_mk (t_add (by have l1:=name_len e.ck;have l2:=dec_len20 (n:=e.a.toNat) (by omega);have l3:=dec_len20 (n:=e.txn) (by omega);have l4:=dec_len20 (n:=e.page) (by omega);have l5:=dec_len20 (n:=e.off.toNat) (by omega);have l6:=hexS_len e.s;simp only [List.length_append,List.length_cons,List.length_nil];omega)) ?_
   refine bindSO_mk (fa_mk (by kernel_rfl)) ?_
   refine bindVO_mk (ld_mk hm6 (by kernel_rfl) rfl) ?_
   refine ⟨_,NumN _ (by omega) _,?_⟩
   refine bindSO_mk (t_add (by have l1:=name_len e.ck;have l2:=dec_len20 (n:=e.a.toNat) (by omega);have l3:=dec_len20 (n:=e.txn) (by omega);have l4:=dec_len20 (n:=e.page) (by omega);have l5:=dec_len20 (n:=e.off.toNat) (by omega);have l6:=hexS_len e.s;simp only [List.length_append,List.length_cons,List.length_nil];omega)) ?_
   refine bindSO_mk (t_add (by have l1:=name_len e.ck;have l2:=dec_len20 (n:=e.a.toNat) (by omega);have l3:=dec_len20 (n:=e.txn) (by omega);have l4:=dec_len20 (n:=e.page) (by omega);have l5:=dec_len20 (n:=e.off.toNat) (by omega);have l6:=hexS_len e.s;simp only [List.length_append,List.length_cons,List.length_nil];omega)) ?_
   refine bindSO_mk (fa_mk (by kernel_rfl)) ?_
   refine bindVO_mk (ld_mk hm6 (by kernel_rfl) rfl) ?_
   refine bindSO_mk (cv_wr (d:=49) (k:=.u64) (by kernel_rfl) (wr_u64 (by omega) (by omega))) ?_
   refine ⟨_,NumN _ (by omega) _,?_⟩
   refine bindSO_mk (t_add (by have l1:=name_len e.ck;have l2:=dec_len20 (n:=e.a.toNat) (by omega);have l3:=dec_len20 (n:=e.txn) (by omega);have l4:=dec_len20 (n:=e.page) (by omega);have l5:=dec_len20 (n:=e.off.toNat) (by omega);have l6:=hexS_len e.s;simp only [List.length_append,List.length_cons,List.length_nil];omega)) ?_
   refine bindSO_mk (t_add (by have l1:=name_len e.ck;have l2:=dec_len20 (n:=e.a.toNat) (by omega);have l3:=dec_len20 (n:=e.txn) (by omega);have l4:=dec_len20 (n:=e.page) (by omega);have l5:=dec_len20 (n:=e.off.toNat) (by omega);have l6:=hexS_len e.s;simp only [List.length_append,List.length_cons,List.length_nil];omega)) ?_
   refine bindSO_mk (fa_mk (by kernel_rfl)) ?_
   refine bindVO_mk (ld_mk hm6 (by kernel_rfl) rfl) ?_
   refine bindSO_mk (cv_wr (d:=49) (k:=.u64) (by kernel_rfl) (wr_u64 (by omega) (by omega))) ?_
   refine ⟨_,NumP _ (by omega) (by omega) _,?_⟩
   refine bindSO_mk (t_add (by have l1:=name_len e.ck;have l2:=dec_len20 (n:=e.a.toNat) (by omega);have l3:=dec_len20 (n:=e.txn) (by omega);have l4:=dec_len20 (n:=e.page) (by omega);have l5:=dec_len20 (n:=e.off.toNat) (by omega);have l6:=hexS_len e.s;simp only [List.length_append,List.length_cons,List.length_nil];omega)) ?_
   refine bindSO_mk (t_add (by have l1:=name_len e.ck;have l2:=dec_len20 (n:=e.a.toNat) (by omega);have l3:=dec_len20 (n:=e.txn) (by omega);have l4:=dec_len20 (n:=e.page) (by omega);have l5:=dec_len20 (n:=e.off.toNat) (by omega);have l6:=hexS_len e.s;simp only [List.length_append,List.length_cons,List.length_nil];omega)) ?_
   refine bindSO_mk (fa_mk (by kernel_rfl)) ?_
   refine bindVO_mk (ld_mk hm6 (by kernel_rfl) rfl) ?_
   refine ⟨_,HexP _ (by omega) _,?_⟩
   refine bindSO_mk (t_add (by have l1:=name_len e.ck;have l2:=dec_len20 (n:=e.a.toNat) (by omega);have l3:=dec_len20 (n:=e.txn) (by omega);have l4:=dec_len20 (n:=e.page) (by omega);have l5:=dec_len20 (n:=e.off.toNat) (by omega);have l6:=hexS_len e.s;simp only [List.length_append,List.length_cons,List.length_nil];omega)) ?_
   refine ⟨congrArg AEnd.ret ((lineR_mk (e:=e) (by unfold Ev.pre;omega) ?_ ?_).trans hv),fr⟩
   · have f0:e.kind=0:=by omega
     first
     | simp [Ev.txt,f0,(show fTxn e.ck=true from decide_eq_true (by omega)),(show fPage e.ck=true from decide_eq_true (by omega)),(show fOff e.ck=true from decide_eq_true (by omega))]
     | simp [Ev.txt,f0,(show fTxn e.ck=true from decide_eq_true (by omega)),(show fPage e.ck=true from decide_eq_true (by omega)),(show fOff e.ck=false from decide_eq_false (by omega))]
     | simp [Ev.txt,f0,(show fTxn e.ck=true from decide_eq_true (by omega)),(show fPage e.ck=false from decide_eq_false (by omega)),(show fOff e.ck=false from decide_eq_false (by omega))]
     | simp [Ev.txt,f0,(show fTxn e.ck=false from decide_eq_false (by omega)),(show fPage e.ck=false from decide_eq_false (by omega)),(show fOff e.ck=false from decide_eq_false (by omega))]
   · first | exact (decide_eq_true (by unfold Ev.fine;omega)).symm | exact (decide_eq_false (by unfold Ev.fine;omega)).symm | (rw [eqd];exact decide_eq_decide.2 (by unfold Ev.fine;omega)) | (rw [eqs];exact decide_eq_decide.2 (by unfold Ev.fine;omega)) | exact decide_eq_decide.2 (by unfold Ev.fine;omega)
 · try rw [c1]
   replace c1:=ne_of_beq_false c1
   refine bindS_mk (b_eql) ?_
   refine i_split (fun c2=>?_) (fun c2=>?_)
   · try rw [c2]
     replace c2:=eq_of_beq c2
     refine bindSO_mk (t_add (by have l1:=name_len e.ck;have l2:=dec_len20 (n:=e.a.toNat) (by omega);have l3:=dec_len20 (n:=e.txn) (by omega);have l4:=dec_len20 (n:=e.page) (by omega);have l5:=dec_len20 (n:=e.off.toNat) (by omega);have l6:=hexS_len e.s;simp only [List.length_append,List.length_cons,List.length_nil];omega)) ?_
     refine bindSO_mk (fa_mk (by kernel_rfl)) ?_
     refine bindVO_mk (ld_mk hm6 (by kernel_rfl) rfl) ?_
     refine ⟨_,NumN _ (by omega) _,?_⟩
     refine bindSO_mk (t_add (by have l1:=name_len e.ck;have l2:=dec_len20 (n:=e.a.toNat) (by omega);have l3:=dec_len20 (n:=e.txn) (by omega);have l4:=dec_len20 (n:=e.page) (by omega);have l5:=dec_len20 (n:=e.off.toNat) (by omega);have l6:=hexS_len e.s;simp only [List.length_append,List.length_cons,List.length_nil];omega)) ?_
     refine bindSO_mk (t_add (by have l1:=name_len e.ck;have l2:=dec_len20 (n:=e.a.toNat) (by omega);have l3:=dec_len20 (n:=e.txn) (by omega);have l4:=dec_len20 (n:=e.page) (by omega);have l5:=dec_len20 (n:=e.off.toNat) (by omega);have l6:=hexS_len e.s;simp only [List.length_append,List.length_cons,List.length_nil];omega)) ?_
     refine bindSO_mk (fa_mk (by kernel_rfl)) ?_
     refine bindVO_mk (ld_mk hm6 (by kernel_rfl) rfl) ?_
     refine bindSO_mk (cv_wr (d:=49) (k:=.u64) (by kernel_rfl) (wr_u64 (by omega) (by omega))) ?_
     refine ⟨_,NumN _ (by omega) _,?_⟩
     refine bindSO_mk (t_add (by have l1:=name_len e.ck;have l2:=dec_len20 (n:=e.a.toNat) (by omega);have l3:=dec_len20 (n:=e.txn) (by omega);have l4:=dec_len20 (n:=e.page) (by omega);have l5:=dec_len20 (n:=e.off.toNat) (by omega);have l6:=hexS_len e.s;simp only [List.length_append,List.length_cons,List.length_nil];omega)) ?_
     refine bindSO_mk (fa_mk (by kernel_rfl)) ?_
     refine bindVO_mk (ld_mk hm6 (by kernel_rfl) rfl) ?_
     refine bindSO_mk (b_eql) ?_
     refine g_split_t (fun c3=>?_) (fun c3=>?_)
     · try rw [c3]
       replace c3:=eq_of_beq c3
       refine bindSO_mk (fa_mk (by kernel_rfl)) ?_
       refine bindVO_mk (ld_mk hm6 (by kernel_rfl) rfl) ?_
       refine bindSO_mk (t_eql) ?_
       refine Meet.of (cast_p (Gz15_eq _ _ _ _ _) ?_)
       refine bindVO_mk p_t ?_
       refine Meet.of (cast_p (Jz3k_eq _ _ _ _) ?_)
       refine ⟨congrArg AEnd.ret ((lineR_mk (e:=e) (by unfold Ev.pre;omega) ?_ ?_).trans hv),fr⟩
       · have f0:e.kind=0:=by omega
         first
         | simp [Ev.txt,f0,(show fTxn e.ck=true from decide_eq_true (by omega)),(show fPage e.ck=true from decide_eq_true (by omega)),(show fOff e.ck=true from decide_eq_true (by omega))]
         | simp [Ev.txt,f0,(show fTxn e.ck=true from decide_eq_true (by omega)),(show fPage e.ck=true from decide_eq_true (by omega)),(show fOff e.ck=false from decide_eq_false (by omega))]
         | simp [Ev.txt,f0,(show fTxn e.ck=true from decide_eq_true (by omega)),(show fPage e.ck=false from decide_eq_false (by omega)),(show fOff e.ck=false from decide_eq_false (by omega))]
         | simp [Ev.txt,f0,(show fTxn e.ck=false from decide_eq_false (by omega)),(show fPage e.ck=false from decide_eq_false (by omega)),(show fOff e.ck=false from decide_eq_false (by omega))]
       · first | exact (decide_eq_true (by unfold Ev.fine;omega)).symm | exact (decide_eq_false (by unfold Ev.fine;omega)).symm | (rw [eqd];exact decide_eq_decide.2 (by unfold Ev.fine;omega)) | (rw [eqs];exact decide_eq_decide.2 (by unfold Ev.fine;omega)) | exact decide_eq_decide.2 (by unfold Ev.fine;omega)
     · try rw [c3]
       replace c3:=ne_of_beq_false c3
       refine Meet.of (cast_p (Gz15_eq _ _ _ _ _) ?_)
       refine bindVO_mk p_f ?_
       refine Meet.of (cast_p (Jz3k_eq _ _ _ _) ?_)
       refine ⟨congrArg AEnd.ret ((lineR_mk (e:=e) (by unfold Ev.pre;omega) ?_ ?_).trans hv),fr⟩
       · have f0:e.kind=0:=by omega
         first
         | simp [Ev.txt,f0,(show fTxn e.ck=true from decide_eq_true (by omega)),(show fPage e.ck=true from decide_eq_true (by omega)),(show fOff e.ck=true from decide_eq_true (by omega))]
         | simp [Ev.txt,f0,(show fTxn e.ck=true from decide_eq_true (by omega)),(show fPage e.ck=true from decide_eq_true (by omega)),(show fOff e.ck=false from decide_eq_false (by omega))]
         | simp [Ev.txt,f0,(show fTxn e.ck=true from decide_eq_true (by omega)),(show fPage e.ck=false from decide_eq_false (by omega)),(show fOff e.ck=false from decide_eq_false (by omega))]
         | simp [Ev.txt,f0,(show fTxn e.ck=false from decide_eq_false (by omega)),(show fPage e.ck=false from decide_eq_false (by omega)),(show fOff e.ck=false from decide_eq_false (by omega))]
       · first | exact (decide_eq_true (by unfold Ev.fine;omega)).symm | exact (decide_eq_false (by unfold Ev.fine;omega)).symm | (rw [eqd];exact decide_eq_decide.2 (by unfold Ev.fine;omega)) | (rw [eqs];exact decide_eq_decide.2 (by unfold Ev.fine;omega)) | exact decide_eq_decide.2 (by unfold Ev.fine;omega)
   · try rw [c2]
     replace c2:=ne_of_beq_false c2
     refine bindS_mk (b_eql) ?_
     refine i_split (fun c4=>?_) (fun c4=>?_)
     · try rw [c4]
       replace c4:=eq_of_beq c4
       refine Meet.of (cast_p (Jz3l_eq _ _ _ _ _) ?_)
       refine i_t ?_
       refine bindSO_mk (t_add (by have l1:=name_len e.ck;have l2:=dec_len20 (n:=e.a.toNat) (by omega);have l3:=dec_len20 (n:=e.txn) (by omega);have l4:=dec_len20 (n:=e.page) (by omega);have l5:=dec_len20 (n:=e.off.toNat) (by omega);have l6:=hexS_len e.s;simp only [List.length_append,List.length_cons,List.length_nil];omega)) ?_
       refine bindSO_mk (fa_mk (by kernel_rfl)) ?_
       refine bindVO_mk (ld_mk hm6 (by kernel_rfl) rfl) ?_
       refine ⟨_,NumN _ (by omega) _,?_⟩
       refine bindSO_mk (t_add (by have l1:=name_len e.ck;have l2:=dec_len20 (n:=e.a.toNat) (by omega);have l3:=dec_len20 (n:=e.txn) (by omega);have l4:=dec_len20 (n:=e.page) (by omega);have l5:=dec_len20 (n:=e.off.toNat) (by omega);have l6:=hexS_len e.s;simp only [List.length_append,List.length_cons,List.length_nil];omega)) ?_
       refine bindSO_mk (fa_mk (by kernel_rfl)) ?_
       refine bindVO_mk (ld_mk hm6 (by kernel_rfl) rfl) ?_
       refine bindSO_mk (b_eql) ?_
       refine g_split_t (fun c5=>?_) (fun c5=>?_)
       · try rw [c5]
         replace c5:=eq_of_beq c5
         refine bindSO_mk (fa_mk (by kernel_rfl)) ?_
         refine bindVO_mk (ld_mk hm6 (by kernel_rfl) rfl) ?_
         refine bindSO_mk (b_eql) ?_
         refine Meet.of (cast_p (Gz16_eq _ _ _ _ _ _) ?_)
         refine bindVO_mk p_t ?_
         refine g_split_t (fun c6=>?_) (fun c6=>?_)
         · try rw [c6]
           replace c6:=eq_of_beq c6
           refine bindSO_mk (fa_mk (by kernel_rfl)) ?_
           refine bindVO_mk (ld_mk hm6 (by kernel_rfl) rfl) ?_
           refine bindSO_mk (t_eql) ?_
           refine Meet.of (cast_p (Gz17_eq _ _ _ _ _) ?_)
           refine bindVO_mk p_t ?_
           refine Meet.of (cast_p (Jz3m_eq _ _ _ _) ?_)
           refine ⟨congrArg AEnd.ret ((lineR_mk (e:=e) (by unfold Ev.pre;omega) ?_ ?_).trans hv),fr⟩
           · have f0:e.kind=0:=by omega
             first
             | simp [Ev.txt,f0,(show fTxn e.ck=true from decide_eq_true (by omega)),(show fPage e.ck=true from decide_eq_true (by omega)),(show fOff e.ck=true from decide_eq_true (by omega))]
             | simp [Ev.txt,f0,(show fTxn e.ck=true from decide_eq_true (by omega)),(show fPage e.ck=true from decide_eq_true (by omega)),(show fOff e.ck=false from decide_eq_false (by omega))]
             | simp [Ev.txt,f0,(show fTxn e.ck=true from decide_eq_true (by omega)),(show fPage e.ck=false from decide_eq_false (by omega)),(show fOff e.ck=false from decide_eq_false (by omega))]
             | simp [Ev.txt,f0,(show fTxn e.ck=false from decide_eq_false (by omega)),(show fPage e.ck=false from decide_eq_false (by omega)),(show fOff e.ck=false from decide_eq_false (by omega))]
           · first | exact (decide_eq_true (by unfold Ev.fine;omega)).symm | exact (decide_eq_false (by unfold Ev.fine;omega)).symm | (rw [eqd];exact decide_eq_decide.2 (by unfold Ev.fine;omega)) | (rw [eqs];exact decide_eq_decide.2 (by unfold Ev.fine;omega)) | exact decide_eq_decide.2 (by unfold Ev.fine;omega)
         · try rw [c6]
           replace c6:=ne_of_beq_false c6
           refine Meet.of (cast_p (Gz17_eq _ _ _ _ _) ?_)
           refine bindVO_mk p_f ?_
           refine Meet.of (cast_p (Jz3m_eq _ _ _ _) ?_)
           refine ⟨congrArg AEnd.ret ((lineR_mk (e:=e) (by unfold Ev.pre;omega) ?_ ?_).trans hv),fr⟩
           · have f0:e.kind=0:=by omega
             first
             | simp [Ev.txt,f0,(show fTxn e.ck=true from decide_eq_true (by omega)),(show fPage e.ck=true from decide_eq_true (by omega)),(show fOff e.ck=true from decide_eq_true (by omega))]
             | simp [Ev.txt,f0,(show fTxn e.ck=true from decide_eq_true (by omega)),(show fPage e.ck=true from decide_eq_true (by omega)),(show fOff e.ck=false from decide_eq_false (by omega))]
             | simp [Ev.txt,f0,(show fTxn e.ck=true from decide_eq_true (by omega)),(show fPage e.ck=false from decide_eq_false (by omega)),(show fOff e.ck=false from decide_eq_false (by omega))]
             | simp [Ev.txt,f0,(show fTxn e.ck=false from decide_eq_false (by omega)),(show fPage e.ck=false from decide_eq_false (by omega)),(show fOff e.ck=false from decide_eq_false (by omega))]
           · first | exact (decide_eq_true (by unfold Ev.fine;omega)).symm | exact (decide_eq_false (by unfold Ev.fine;omega)).symm | (rw [eqd];exact decide_eq_decide.2 (by unfold Ev.fine;omega)) | (rw [eqs];exact decide_eq_decide.2 (by unfold Ev.fine;omega)) | exact decide_eq_decide.2 (by unfold Ev.fine;omega)
       · try rw [c5]
         replace c5:=ne_of_beq_false c5
         refine Meet.of (cast_p (Gz16_eq _ _ _ _ _ _) ?_)
         refine bindVO_mk p_f ?_
         refine g_ft ?_
         refine Meet.of (cast_p (Gz17_eq _ _ _ _ _) ?_)
         refine bindVO_mk p_f ?_
         refine Meet.of (cast_p (Jz3m_eq _ _ _ _) ?_)
         refine ⟨congrArg AEnd.ret ((lineR_mk (e:=e) (by unfold Ev.pre;omega) ?_ ?_).trans hv),fr⟩
         · have f0:e.kind=0:=by omega
           first
           | simp [Ev.txt,f0,(show fTxn e.ck=true from decide_eq_true (by omega)),(show fPage e.ck=true from decide_eq_true (by omega)),(show fOff e.ck=true from decide_eq_true (by omega))]
           | simp [Ev.txt,f0,(show fTxn e.ck=true from decide_eq_true (by omega)),(show fPage e.ck=true from decide_eq_true (by omega)),(show fOff e.ck=false from decide_eq_false (by omega))]
           | simp [Ev.txt,f0,(show fTxn e.ck=true from decide_eq_true (by omega)),(show fPage e.ck=false from decide_eq_false (by omega)),(show fOff e.ck=false from decide_eq_false (by omega))]
           | simp [Ev.txt,f0,(show fTxn e.ck=false from decide_eq_false (by omega)),(show fPage e.ck=false from decide_eq_false (by omega)),(show fOff e.ck=false from decide_eq_false (by omega))]
         · first | exact (decide_eq_true (by unfold Ev.fine;omega)).symm | exact (decide_eq_false (by unfold Ev.fine;omega)).symm | (rw [eqd];exact decide_eq_decide.2 (by unfold Ev.fine;omega)) | (rw [eqs];exact decide_eq_decide.2 (by unfold Ev.fine;omega)) | exact decide_eq_decide.2 (by unfold Ev.fine;omega)
     · try rw [c4]
       replace c4:=ne_of_beq_false c4
       refine bindS_mk (b_eql) ?_
       refine Meet.of (cast_p (Jz3l_eq _ _ _ _ _) ?_)
       refine i_split (fun c7=>?_) (fun c7=>?_)
       · try rw [c7]
         replace c7:=eq_of_beq c7
         refine bindSO_mk (t_add (by have l1:=name_len e.ck;have l2:=dec_len20 (n:=e.a.toNat) (by omega);have l3:=dec_len20 (n:=e.txn) (by omega);have l4:=dec_len20 (n:=e.page) (by omega);have l5:=dec_len20 (n:=e.off.toNat) (by omega);have l6:=hexS_len e.s;simp only [List.length_append,List.length_cons,List.length_nil];omega)) ?_
         refine bindSO_mk (fa_mk (by kernel_rfl)) ?_
         refine bindVO_mk (ld_mk hm6 (by kernel_rfl) rfl) ?_
         refine ⟨_,NumN _ (by omega) _,?_⟩
         refine bindSO_mk (t_add (by have l1:=name_len e.ck;have l2:=dec_len20 (n:=e.a.toNat) (by omega);have l3:=dec_len20 (n:=e.txn) (by omega);have l4:=dec_len20 (n:=e.page) (by omega);have l5:=dec_len20 (n:=e.off.toNat) (by omega);have l6:=hexS_len e.s;simp only [List.length_append,List.length_cons,List.length_nil];omega)) ?_
         refine bindSO_mk (fa_mk (by kernel_rfl)) ?_
         refine bindVO_mk (ld_mk hm6 (by kernel_rfl) rfl) ?_
         refine bindSO_mk (b_eql) ?_
         refine g_split_t (fun c8=>?_) (fun c8=>?_)
         · try rw [c8]
           replace c8:=eq_of_beq c8
           refine bindSO_mk (fa_mk (by kernel_rfl)) ?_
           refine bindVO_mk (ld_mk hm6 (by kernel_rfl) rfl) ?_
           refine bindSO_mk (b_eql) ?_
           refine Meet.of (cast_p (Gz16_eq _ _ _ _ _ _) ?_)
           refine bindVO_mk p_t ?_
           refine g_split_t (fun c9=>?_) (fun c9=>?_)
           · try rw [c9]
             replace c9:=eq_of_beq c9
             refine bindSO_mk (fa_mk (by kernel_rfl)) ?_
             refine bindVO_mk (ld_mk hm6 (by kernel_rfl) rfl) ?_
             refine bindSO_mk (t_eql) ?_
             refine Meet.of (cast_p (Gz17_eq _ _ _ _ _) ?_)
             refine bindVO_mk p_t ?_
             refine Meet.of (cast_p (Jz3m_eq _ _ _ _) ?_)
             refine ⟨congrArg AEnd.ret ((lineR_mk (e:=e) (by unfold Ev.pre;omega) ?_ ?_).trans hv),fr⟩
             · have f0:e.kind=0:=by omega
               first
               | simp [Ev.txt,f0,(show fTxn e.ck=true from decide_eq_true (by omega)),(show fPage e.ck=true from decide_eq_true (by omega)),(show fOff e.ck=true from decide_eq_true (by omega))]
               | simp [Ev.txt,f0,(show fTxn e.ck=true from decide_eq_true (by omega)),(show fPage e.ck=true from decide_eq_true (by omega)),(show fOff e.ck=false from decide_eq_false (by omega))]
               | simp [Ev.txt,f0,(show fTxn e.ck=true from decide_eq_true (by omega)),(show fPage e.ck=false from decide_eq_false (by omega)),(show fOff e.ck=false from decide_eq_false (by omega))]
               | simp [Ev.txt,f0,(show fTxn e.ck=false from decide_eq_false (by omega)),(show fPage e.ck=false from decide_eq_false (by omega)),(show fOff e.ck=false from decide_eq_false (by omega))]
             · first | exact (decide_eq_true (by unfold Ev.fine;omega)).symm | exact (decide_eq_false (by unfold Ev.fine;omega)).symm | (rw [eqd];exact decide_eq_decide.2 (by unfold Ev.fine;omega)) | (rw [eqs];exact decide_eq_decide.2 (by unfold Ev.fine;omega)) | exact decide_eq_decide.2 (by unfold Ev.fine;omega)
           · try rw [c9]
             replace c9:=ne_of_beq_false c9
             refine Meet.of (cast_p (Gz17_eq _ _ _ _ _) ?_)
             refine bindVO_mk p_f ?_
             refine Meet.of (cast_p (Jz3m_eq _ _ _ _) ?_)
             refine ⟨congrArg AEnd.ret ((lineR_mk (e:=e) (by unfold Ev.pre;omega) ?_ ?_).trans hv),fr⟩
             · have f0:e.kind=0:=by omega
               first
               | simp [Ev.txt,f0,(show fTxn e.ck=true from decide_eq_true (by omega)),(show fPage e.ck=true from decide_eq_true (by omega)),(show fOff e.ck=true from decide_eq_true (by omega))]
               | simp [Ev.txt,f0,(show fTxn e.ck=true from decide_eq_true (by omega)),(show fPage e.ck=true from decide_eq_true (by omega)),(show fOff e.ck=false from decide_eq_false (by omega))]
               | simp [Ev.txt,f0,(show fTxn e.ck=true from decide_eq_true (by omega)),(show fPage e.ck=false from decide_eq_false (by omega)),(show fOff e.ck=false from decide_eq_false (by omega))]
               | simp [Ev.txt,f0,(show fTxn e.ck=false from decide_eq_false (by omega)),(show fPage e.ck=false from decide_eq_false (by omega)),(show fOff e.ck=false from decide_eq_false (by omega))]
             · first | exact (decide_eq_true (by unfold Ev.fine;omega)).symm | exact (decide_eq_false (by unfold Ev.fine;omega)).symm | (rw [eqd];exact decide_eq_decide.2 (by unfold Ev.fine;omega)) | (rw [eqs];exact decide_eq_decide.2 (by unfold Ev.fine;omega)) | exact decide_eq_decide.2 (by unfold Ev.fine;omega)
         · try rw [c8]
           replace c8:=ne_of_beq_false c8
           refine Meet.of (cast_p (Gz16_eq _ _ _ _ _ _) ?_)
           refine bindVO_mk p_f ?_
           refine g_ft ?_
           refine Meet.of (cast_p (Gz17_eq _ _ _ _ _) ?_)
           refine bindVO_mk p_f ?_
           refine Meet.of (cast_p (Jz3m_eq _ _ _ _) ?_)
           refine ⟨congrArg AEnd.ret ((lineR_mk (e:=e) (by unfold Ev.pre;omega) ?_ ?_).trans hv),fr⟩
           · have f0:e.kind=0:=by omega
             first
             | simp [Ev.txt,f0,(show fTxn e.ck=true from decide_eq_true (by omega)),(show fPage e.ck=true from decide_eq_true (by omega)),(show fOff e.ck=true from decide_eq_true (by omega))]
             | simp [Ev.txt,f0,(show fTxn e.ck=true from decide_eq_true (by omega)),(show fPage e.ck=true from decide_eq_true (by omega)),(show fOff e.ck=false from decide_eq_false (by omega))]
             | simp [Ev.txt,f0,(show fTxn e.ck=true from decide_eq_true (by omega)),(show fPage e.ck=false from decide_eq_false (by omega)),(show fOff e.ck=false from decide_eq_false (by omega))]
             | simp [Ev.txt,f0,(show fTxn e.ck=false from decide_eq_false (by omega)),(show fPage e.ck=false from decide_eq_false (by omega)),(show fOff e.ck=false from decide_eq_false (by omega))]
           · first | exact (decide_eq_true (by unfold Ev.fine;omega)).symm | exact (decide_eq_false (by unfold Ev.fine;omega)).symm | (rw [eqd];exact decide_eq_decide.2 (by unfold Ev.fine;omega)) | (rw [eqs];exact decide_eq_decide.2 (by unfold Ev.fine;omega)) | exact decide_eq_decide.2 (by unfold Ev.fine;omega)
       · try rw [c7]
         replace c7:=ne_of_beq_false c7
         refine Meet.of (cast_p (Jz3n_eq _ _ _ _) ?_)
         refine bindVO_mk (ld_mk hm6 (by kernel_rfl) rfl) ?_
         refine bindSO_mk (fa_mk (by kernel_rfl)) ?_
         refine bindVO_mk (ld_mk hm6 (by kernel_rfl) rfl) ?_
         refine bindSO_mk (build57k e) ?_
         refine bindSO_mk (eq57k e _) ?_
         refine ⟨congrArg AEnd.ret ((lineR_mk (e:=e) (by unfold Ev.pre;omega) ?_ ?_).trans hv),fr⟩
         · have f0:e.kind=0:=by omega
           first
           | simp [Ev.txt,f0,(show fTxn e.ck=true from decide_eq_true (by omega)),(show fPage e.ck=true from decide_eq_true (by omega)),(show fOff e.ck=true from decide_eq_true (by omega))]
           | simp [Ev.txt,f0,(show fTxn e.ck=true from decide_eq_true (by omega)),(show fPage e.ck=true from decide_eq_true (by omega)),(show fOff e.ck=false from decide_eq_false (by omega))]
           | simp [Ev.txt,f0,(show fTxn e.ck=true from decide_eq_true (by omega)),(show fPage e.ck=false from decide_eq_false (by omega)),(show fOff e.ck=false from decide_eq_false (by omega))]
           | simp [Ev.txt,f0,(show fTxn e.ck=false from decide_eq_false (by omega)),(show fPage e.ck=false from decide_eq_false (by omega)),(show fOff e.ck=false from decide_eq_false (by omega))]
         · first | exact (decide_eq_true (by unfold Ev.fine;omega)).symm | exact (decide_eq_false (by unfold Ev.fine;omega)).symm | (rw [eqd];exact decide_eq_decide.2 (by unfold Ev.fine;omega)) | (rw [eqs];exact decide_eq_decide.2 (by unfold Ev.fine;omega)) | exact decide_eq_decide.2 (by unfold Ev.fine;omega)
end
end Go.Proofs.YtcglbpjpbjaecaaGreat.Sh
