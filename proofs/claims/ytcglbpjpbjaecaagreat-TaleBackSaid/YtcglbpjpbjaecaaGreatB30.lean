import Derived.Test.YtcglbpjpbjaecaaGreatB18
import Derived.Test.YtcglbpjpbjaecaaGreatB29
import Derived.Test.YtcglbpjpbjaecaaGreatB14
import Derived.Test.YtcglbpjpbjaecaaGreatB08
import Derived.Test.YtcglbpjpbjaecaaGreatB17
import Derived.Carry
import Derived.ChangeArms
import Derived.Test.YtcglbpjpbjaecaaGreatB16
set_option linter.unusedVariables false
set_option linter.unusedSimpArgs false
namespace Go.Proofs.YtcglbpjpbjaecaaGreat.Ru
open Go Go.Ab Go.RowKit
set_option maxRecDepth 100000
theorem Tarun23:(exTabM Pg FT hdT (orMemo hmT (allMemoC [])) pu 60).ex (V × HT) Tam23.f Tam23.args ⟨Tam23.H.next,Tam23.H.next,Tam23.H.tr⟩ (pairP [(1551,1)])=some (Tam23.v,Tam23.H'):=by kernel_rfl
theorem Tamok23 (hh:HdOk Pg hd):MemoOk Pg Tam23:=memo_ofP okP tabOk (hdT_ok hh) (orMemo_ok hmT_ok (allMemoC_ok (l:=[]) trivial)) [(1551,1)] (own_of Taown39) Tarun23
end Go.Proofs.YtcglbpjpbjaecaaGreat.Ru
namespace Go.Proofs.YtcglbpjpbjaecaaGreat.Ru
open Go Go.Ab Go.RowKit
set_option maxRecDepth 100000
theorem Tarun24:(exTabM Pg FT hdT (orMemo hmT (allMemoC [Tam23])) pu 60).ex (V × HT) Tam24.f Tam24.args ⟨Tam24.H.next,Tam24.H.next,Tam24.H.tr⟩ (pairP [(1548,4),(1553,1)])=some (Tam24.v,Tam24.H'):=by kernel_rfl
theorem Tamok24 (hh:HdOk Pg hd):MemoOk Pg Tam24:=memo_ofP okP tabOk (hdT_ok hh) (orMemo_ok hmT_ok (allMemoC_ok (l:=[Tam23]) ⟨Tamok23 hh,trivial⟩)) [(1548,4),(1553,1)] (own_of Taown41) Tarun24
end Go.Proofs.YtcglbpjpbjaecaaGreat.Ru
namespace Go.Proofs.YtcglbpjpbjaecaaGreat.Ru
open Go Go.Ab Go.RowKit
set_option maxRecDepth 100000
theorem Tarun25:(exTabM Pg FT hdT (orMemo hmT (allMemoC [])) pu 60).ex (V × HT) Tam25.f Tam25.args ⟨Tam25.H.next,Tam25.H.next,Tam25.H.tr⟩ (pairP [])=some (Tam25.v,Tam25.H'):=by kernel_rfl
theorem Tamok25 (hh:HdOk Pg hd):MemoOk Pg Tam25:=memo_ofP okP tabOk (hdT_ok hh) (orMemo_ok hmT_ok (allMemoC_ok (l:=[]) trivial)) [] (own_of Taown43) Tarun25
end Go.Proofs.YtcglbpjpbjaecaaGreat.Ru
namespace Go.Proofs.YtcglbpjpbjaecaaGreat.Ru
open Go Go.Ab Go.RowKit
set_option maxRecDepth 100000
theorem Tarun26:(exTabM Pg FT hdT (orMemo hmT (allMemoC [Tam25])) pu 60).ex (V × HT) Tam26.f Tam26.args ⟨Tam26.H.next,Tam26.H.next,Tam26.H.tr⟩ (pairP [])=some (Tam26.v,Tam26.H'):=by kernel_rfl
theorem Tamok26 (hh:HdOk Pg hd):MemoOk Pg Tam26:=memo_ofP okP tabOk (hdT_ok hh) (orMemo_ok hmT_ok (allMemoC_ok (l:=[Tam25]) ⟨Tamok25 hh,trivial⟩)) [] (own_of Taown43) Tarun26
end Go.Proofs.YtcglbpjpbjaecaaGreat.Ru
namespace Go.Proofs.YtcglbpjpbjaecaaGreat.Ru
open Go Go.Ab Go.RowKit
set_option maxRecDepth 100000
theorem Tarun27:(exTabM Pg FT hdT (orMemo hmT (allMemoC [Tam26])) pu 60).ex (V × HT) Tam27.f Tam27.args ⟨Tam27.H.next,Tam27.H.next,Tam27.H.tr⟩ (pairP [])=some (Tam27.v,Tam27.H'):=by kernel_rfl
theorem Tamok27 (hh:HdOk Pg hd):MemoOk Pg Tam27:=memo_ofP okP tabOk (hdT_ok hh) (orMemo_ok hmT_ok (allMemoC_ok (l:=[Tam26]) ⟨Tamok26 hh,trivial⟩)) [] (own_of Taown43) Tarun27
end Go.Proofs.YtcglbpjpbjaecaaGreat.Ru
namespace Go.Proofs.YtcglbpjpbjaecaaGreat.Ru
open Go Go.Ab Go.RowKit
set_option maxRecDepth 100000
theorem Tarun28:(exTabM Pg FT hdT (orMemo hmT (allMemoC [Tam27])) pu 60).ex (V × HT) Tam28.f Tam28.args ⟨Tam28.H.next,Tam28.H.next,Tam28.H.tr⟩ (pairP [(1557,3),(1562,2)])=some (Tam28.v,Tam28.H'):=by kernel_rfl
theorem Tamok28 (hh:HdOk Pg hd):MemoOk Pg Tam28:=memo_ofP okP tabOk (hdT_ok hh) (orMemo_ok hmT_ok (allMemoC_ok (l:=[Tam27]) ⟨Tamok27 hh,trivial⟩)) [(1557,3),(1562,2)] (own_of Taown43) Tarun28
end Go.Proofs.YtcglbpjpbjaecaaGreat.Ru
namespace Go.Proofs.YtcglbpjpbjaecaaGreat.Ru
open Go Go.Ab Go.RowKit
set_option maxRecDepth 100000
theorem Tarun29:(exTabM Pg FT hdT (orMemo hmT (allMemoC [Tam28])) pu 60).ex (V × HT) Tam29.f Tam29.args ⟨Tam29.H.next,Tam29.H.next,Tam29.H.tr⟩ (pairP [(1557,3),(1562,3)])=some (Tam29.v,Tam29.H'):=by kernel_rfl
theorem Tamok29 (hh:HdOk Pg hd):MemoOk Pg Tam29:=memo_ofP okP tabOk (hdT_ok hh) (orMemo_ok hmT_ok (allMemoC_ok (l:=[Tam28]) ⟨Tamok28 hh,trivial⟩)) [(1557,3),(1562,3)] (own_of Taown43) Tarun29
end Go.Proofs.YtcglbpjpbjaecaaGreat.Ru
namespace Go.Proofs.YtcglbpjpbjaecaaGreat.Ru
open Go Go.Ab Go.RowKit
set_option maxRecDepth 100000
theorem Tarun30:(exTabM Pg FT hdT (orMemo hmT (allMemoC [])) pu 60).ex (V × HT) Tam30.f Tam30.args ⟨Tam30.H.next,Tam30.H.next,Tam30.H.tr⟩ (pairP [])=some (Tam30.v,Tam30.H'):=by kernel_rfl
theorem Tamok30 (hh:HdOk Pg hd):MemoOk Pg Tam30:=memo_ofP okP tabOk (hdT_ok hh) (orMemo_ok hmT_ok (allMemoC_ok (l:=[]) trivial)) [] (own_of Taown45) Tarun30
end Go.Proofs.YtcglbpjpbjaecaaGreat.Ru
namespace Go.Proofs.YtcglbpjpbjaecaaGreat.Ru
open Go Go.Ab Go.RowKit
set_option maxRecDepth 100000
theorem Tarun31:(exTabM Pg FT hdT (orMemo hmT (allMemoC [Tam30])) pu 60).ex (V × HT) Tam31.f Tam31.args ⟨Tam31.H.next,Tam31.H.next,Tam31.H.tr⟩ (pairP [])=some (Tam31.v,Tam31.H'):=by kernel_rfl
theorem Tamok31 (hh:HdOk Pg hd):MemoOk Pg Tam31:=memo_ofP okP tabOk (hdT_ok hh) (orMemo_ok hmT_ok (allMemoC_ok (l:=[Tam30]) ⟨Tamok30 hh,trivial⟩)) [] (own_of Taown45) Tarun31
end Go.Proofs.YtcglbpjpbjaecaaGreat.Ru
namespace Go.Proofs.YtcglbpjpbjaecaaGreat.Ru
open Go Go.Ab Go.RowKit
set_option maxRecDepth 100000
theorem Tarun32:(exTabM Pg FT hdT (orMemo hmT (allMemoC [Tam31])) pu 60).ex (V × HT) Tam32.f Tam32.args ⟨Tam32.H.next,Tam32.H.next,Tam32.H.tr⟩ (pairP [])=some (Tam32.v,Tam32.H'):=by kernel_rfl
theorem Tamok32 (hh:HdOk Pg hd):MemoOk Pg Tam32:=memo_ofP okP tabOk (hdT_ok hh) (orMemo_ok hmT_ok (allMemoC_ok (l:=[Tam31]) ⟨Tamok31 hh,trivial⟩)) [] (own_of Taown45) Tarun32
end Go.Proofs.YtcglbpjpbjaecaaGreat.Ru
namespace Go.Proofs.YtcglbpjpbjaecaaGreat.Ru
open Go Go.Ab Go.RowKit
set_option maxRecDepth 100000
theorem Tarun33:(exTabM Pg FT hdT (orMemo hmT (allMemoC [Tam32])) pu 60).ex (V × HT) Tam33.f Tam33.args ⟨Tam33.H.next,Tam33.H.next,Tam33.H.tr⟩ (pairP [])=some (Tam33.v,Tam33.H'):=by kernel_rfl
theorem Tamok33 (hh:HdOk Pg hd):MemoOk Pg Tam33:=memo_ofP okP tabOk (hdT_ok hh) (orMemo_ok hmT_ok (allMemoC_ok (l:=[Tam32]) ⟨Tamok32 hh,trivial⟩)) [] (own_of Taown45) Tarun33
end Go.Proofs.YtcglbpjpbjaecaaGreat.Ru
namespace Go.Proofs.YtcglbpjpbjaecaaGreat.Ru
open Go Go.Ab Go.RowKit
set_option maxRecDepth 100000
theorem Tarun34:(exTabM Pg FT hdT (orMemo hmT (allMemoC [Tam33])) pu 60).ex (V × HT) Tam34.f Tam34.args ⟨Tam34.H.next,Tam34.H.next,Tam34.H.tr⟩ (pairP [])=some (Tam34.v,Tam34.H'):=by kernel_rfl
theorem Tamok34 (hh:HdOk Pg hd):MemoOk Pg Tam34:=memo_ofP okP tabOk (hdT_ok hh) (orMemo_ok hmT_ok (allMemoC_ok (l:=[Tam33]) ⟨Tamok33 hh,trivial⟩)) [] (own_of Taown45) Tarun34
end Go.Proofs.YtcglbpjpbjaecaaGreat.Ru
namespace Go.Proofs.YtcglbpjpbjaecaaGreat.Ru
open Go Go.Ab Go.RowKit
set_option maxRecDepth 100000
theorem Tarun35:(exTabM Pg FT hdT (orMemo hmT (allMemoC [Tam34])) pu 60).ex (V × HT) Tam35.f Tam35.args ⟨Tam35.H.next,Tam35.H.next,Tam35.H.tr⟩ (pairP [])=some (Tam35.v,Tam35.H'):=by kernel_rfl
theorem Tamok35 (hh:HdOk Pg hd):MemoOk Pg Tam35:=memo_ofP okP tabOk (hdT_ok hh) (orMemo_ok hmT_ok (allMemoC_ok (l:=[Tam34]) ⟨Tamok34 hh,trivial⟩)) [] (own_of Taown45) Tarun35
end Go.Proofs.YtcglbpjpbjaecaaGreat.Ru
namespace Go.Proofs.YtcglbpjpbjaecaaGreat.Ru
open Go Go.Ab Go.RowKit
set_option maxRecDepth 100000
theorem Tarun36:(exTabM Pg FT hdT (orMemo hmT (allMemoC [Tam29,Tam35])) pu 60).ex (V × HT) Tam36.f Tam36.args ⟨Tam36.H.next,Tam36.H.next,Tam36.H.tr⟩ (pairP [(1556,4),(1562,3)])=some (Tam36.v,Tam36.H'):=by kernel_rfl
theorem Tamok36 (hh:HdOk Pg hd):MemoOk Pg Tam36:=memo_ofP okP tabOk (hdT_ok hh) (orMemo_ok hmT_ok (allMemoC_ok (l:=[Tam29,Tam35]) ⟨Tamok29 hh,Tamok35 hh,trivial⟩)) [(1556,4),(1562,3)] (own_of Taown46) Tarun36
end Go.Proofs.YtcglbpjpbjaecaaGreat.Ru
namespace Go.Proofs.YtcglbpjpbjaecaaGreat.Ru
open Go Go.Ab Go.RowKit
set_option maxRecDepth 100000
theorem Tarun37:(exTabM Pg FT hdT (orMemo hmT (allMemoC [])) pu 60).ex (V × HT) Tam37.f Tam37.args ⟨Tam37.H.next,Tam37.H.next,Tam37.H.tr⟩ (pairP [(1568,12)])=some (Tam37.v,Tam37.H'):=by kernel_rfl
theorem Tamok37 (hh:HdOk Pg hd):MemoOk Pg Tam37:=memo_ofP okP tabOk (hdT_ok hh) (orMemo_ok hmT_ok (allMemoC_ok (l:=[]) trivial)) [(1568,12)] (own_of Taown48) Tarun37
end Go.Proofs.YtcglbpjpbjaecaaGreat.Ru
namespace Go.Proofs.YtcglbpjpbjaecaaGreat.Ru
open Go Go.Ab Go.RowKit
set_option maxRecDepth 100000
theorem Tarun38:(exTabM Pg FT hdT (orMemo hmT (allMemoC [Tam4,Tam22,Tam24,Tam36,Tam37])) pu 60).ex (V × HT) Tam38.f Tam38.args ⟨Tam38.H.next,Tam38.H.next,Tam38.H.tr⟩ (pairP [(0,1581)])=some (Tam38.v,Tam38.H'):=by kernel_rfl
theorem Tamok38 (hh:HdOk Pg hd):MemoOk Pg Tam38:=memo_ofP okP tabOk (hdT_ok hh) (orMemo_ok hmT_ok (allMemoC_ok (l:=[Tam4,Tam22,Tam24,Tam36,Tam37]) ⟨Tamok4 hh,Tamok22 hh,Tamok24 hh,Tamok36 hh,Tamok37 hh,trivial⟩)) [(0,1581)] (own_of Taown50) Tarun38
end Go.Proofs.YtcglbpjpbjaecaaGreat.Ru
namespace Go.Proofs.YtcglbpjpbjaecaaGreat.Ru
open Go Go.Ab Go.RowKit
set_option maxRecDepth 100000
theorem Tarun39:(exTabM Pg FT hdT (orMemo hmT (allMemoC [Tam38])) pu 60).ex (V × HT) Tam39.f Tam39.args ⟨Tam39.H.next,Tam39.H.next,Tam39.H.tr⟩ (pairP [(0,1581)])=some (Tam39.v,Tam39.H'):=by kernel_rfl
theorem Tamok39 (hh:HdOk Pg hd):MemoOk Pg Tam39:=memo_ofP okP tabOk (hdT_ok hh) (orMemo_ok hmT_ok (allMemoC_ok (l:=[Tam38]) ⟨Tamok38 hh,trivial⟩)) [(0,1581)] (own_of Taown50) Tarun39
end Go.Proofs.YtcglbpjpbjaecaaGreat.Ru
namespace Go.Proofs.YtcglbpjpbjaecaaGreat.Sh
open Go Go.Ab Go.RowKit
open Go.Proofs.YtcglbpjpbjaecaaGreat.Ru (Pg okP)
set_option maxRecDepth 100000
end Go.Proofs.YtcglbpjpbjaecaaGreat.Sh
namespace Go.Proofs.YtcglbpjpbjaecaaGreat.Sh
open Go Go.Ab Go.RowKit
open Go.Proofs.YtcglbpjpbjaecaaGreat.Ru
set_option maxRecDepth 10000
theorem hdOkT:HdOk Pg hd:=by
 intro f args v hv
 unfold hd at hv
 split at hv
 · rename_i hf
   obtain rfl:=Nat.eq_of_beq_eq_true hf
   split at hv
   · rename_i n s
     obtain ⟨hc,hv⟩:=bif_some hv
     rw [Bool.and_eq_true,Nat.blt_eq,Nat.blt_eq] at hc
     cases hv
     exact ⟨by kernel_rfl,fun h=>moreP n hc.1 s hc.2 h⟩
   · cases hv
 · cases hv
theorem awakeT (h:AH):ACalls Pg 42 [] h (pureE (.bool true) h):=by
 have c:=(Tamok39 hdOkT).call
 have e:(Tam39).H.ah=AH0:=by
   show HT.ah ⟨0,0,Tat50⟩=AH0
   rw [show Tat50=.nil by kernel_rfl]
   exact HT0_ah
 rw [e] at c
 exact pure_lift rfl rfl (c.mono fun e _ q=>q.1) h
end Go.Proofs.YtcglbpjpbjaecaaGreat.Sh
namespace Go.Proofs.YtcglbpjpbjaecaaGreat.Sh
open Go Go.Ab Go.RowKit
open Go.Proofs.YtcglbpjpbjaecaaGreat.Ru (Pg okP)
set_option maxRecDepth 10000
set_option linter.unusedSectionVars false
theorem par_fine {s:List UInt8}:∀ e∈(parT evT s).1,e.fine∧e.ok∧e.keep.length≤2000:=by
 intro e he
 by_cases h:(parT evT s).2.2=0
 · unfold parT at h he
   by_cases hn:131072 < s.length
   · rw [if_pos hn] at he;simp at he
   · rw [if_neg hn] at h he
     obtain ⟨h1,_,h3,_⟩:=prs_ok evT _ _ _ _ h
     rw [h1] at he
     simp only [List.nil_append,List.mem_map] at he
     obtain ⟨l,hl,rfl⟩:=he
     have hll:=lns_len s [] l hl
     have hf:=(h3 l hl).1
     refine ⟨hf,evT_ok l (by simp at hll;omega),?_⟩
     unfold Ev.fine at hf
     omega
 · rw [par_no evT h] at he;simp at he
end Go.Proofs.YtcglbpjpbjaecaaGreat.Sh
namespace Go.Proofs.YtcglbpjpbjaecaaGreat.Sh
open Go Go.Ab Go.RowKit
open Go.Proofs.YtcglbpjpbjaecaaGreat.Ru (Pg okP)
set_option maxRecDepth 10000
theorem callK {l:List Ev} {h0:AH} {x:V} {K X:V→AH→Prop} (hsc:ScrA h0 x l) (k:∀ y h',ScrB h' y (keptF l)→h0.next≤h'.next→(∀ n,n < h0.next→h'.m n=h0.m n)→K y h'):ACalls Pg 46 [x] h0 (aEnd K X) :=
 (keptP l hsc).mono fun e h' q=>by obtain ⟨y,rfl,q1,q2,q3,_⟩:=q;exact k y h' q1 q2 q3
theorem keptF_len (l:List Ev):(keptF l).length≤2100:=by simp [keptF];omega
theorem keptF_keep {l:List Ev} {e:Ev} (he:e∈keptF l):e.keep.length≤2100:=by
 simp only [keptF,List.mem_map] at he
 obtain ⟨f,_,rfl⟩:=he
 simp [Ev.cut];omega
theorem keptF_ok {l:List Ev} (hok:∀ e∈l,e.ok):∀ e∈keptF l,e.ok:=fun e he=>by
 simp only [keptF,List.mem_map] at he
 obtain ⟨f,hf,rfl⟩:=he
 exact cut_ok (hok f (List.mem_of_mem_take hf))
theorem keptF_keptF (l:List Ev):keptF (keptF l)=keptF l:=by
 have:(keptF l).take 2100=keptF l:=List.take_of_length_le (keptF_len l)
 rw [show keptF (keptF l)=((keptF l).take 2100).map Ev.cut from rfl,this,keptF,List.map_map]
 congr 1
 funext e
 exact cut_cut e
end Go.Proofs.YtcglbpjpbjaecaaGreat.Sh
namespace Go.Proofs.YtcglbpjpbjaecaaGreat.Sh
open Go Go.Ab Go.RowKit
open Go.Proofs.YtcglbpjpbjaecaaGreat.Ru (Pg okP)
set_option maxRecDepth 10000
set_option linter.unusedSectionVars false
theorem back2 (s:List UInt8) (h:AH):Jz1u (fun e _=>e=.ret (.bool true)) (.str s) h:=by
 rw [Jz1u_eq]
 refine bindV_mk (len_str (by kernel_rfl)) ?_
 refine bindS_mk b_gtr ?_
 refine i_split (fun c=>?_) (fun c=>?_)
 · refine callS (awakeT _) ?_
   rfl
 · refine Meet.of (cast_p (Jz1v_eq _ _ _) ?_)
   refine callE2 (parseP s h) ?_
   rintro e h1 ⟨y1,rfl,s1,n1,f1⟩
   refine ⟨_,rfl,?_⟩
   refine bindS_mk (show aExtract _ _=some _ from rfl) ?_
   refine bindS_mk (show aExtract _ _=some _ from rfl) ?_
   refine bindS_mk (show aExtract _ _=some _ from rfl) ?_
   refine bindS_mk b_neq ?_
   refine i_split (fun d=>?_) (fun d=>?_)
   · replace d:=ne_of_bne d
     have hn:(parT evT s).2.2≠0:=fun q=>d (by rw [q];rfl)
     have he:=par_no evT hn
     obtain ⟨a,rfl⟩:=s1.shape
     refine bindV_mk (len_slc (by kernel_rfl)) ?_
     refine bindS_mk b_eql ?_
     rw [he]
     refine g_tt ?_
     refine callS (awakeT _) ?_
     refine Meet.of (cast_p (Gz4_eq _ _ _ _) ?_)
     refine bindV_mk p_t ?_
     refine Meet.of (cast_p (Jz1w_eq _ _ _) ?_)
     rfl
   · replace d:=eq_of_bne_false d
     have hn:(parT evT s).2.2=0:=by omega
     obtain ⟨k1,_⟩:=print_par hn
     refine Meet.of (cast_p (Jz1x_eq _ _ _ _) ?_)
     refine callS (printP _ (fun e he=>(par_fine e he).2.1) s1) ?_
     rw [k1]
     refine bindS_mk (show aExtract _ _=some _ from rfl) ?_
     refine bindS_mk (show aExtract _ _=some _ from rfl) ?_
     refine bindS_mk b_eql ?_
     refine g_tt ?_
     refine bindS_mk t_eql ?_
     rw [show (s == s)=true from beq_self_eq_true s]
     refine Meet.of (cast_p (Gz5_eq _ _ _ _) ?_)
     refine bindV_mk p_t ?_
     refine g_tt ?_
     refine callS (awakeT _) ?_
     refine Meet.of (cast_p (Gz6_eq _ _ _ _) ?_)
     refine bindV_mk p_t ?_
     refine Meet.of (cast_p (Jz1y_eq _ _ _) ?_)
     rfl
theorem backLaw (l:List Ev) (hok:∀ e∈l,e.ok) (s:List UInt8) {h0:AH} {x:V} (hsc:ScrA h0 x l):ACalls Pg 11 [x,.str s] h0 fun e _=>e=.ret (.bool true):=by
 refine C11 _ _ _ _ ?_
 refine callK hsc fun y1 h1 s1 n1 f1=>?_
 refine callK s1.any fun y2 h2 s2 n2 f2=>?_
 rw [keptF_keptF] at s2
 have s1':ScrB h2 y1 (keptF l):=s1.keep n2 f2
 refine callS (printP _ (keptF_ok hok) s2) ?_
 refine bindS_mk (show aExtract _ _=some _ from rfl) ?_
 refine bindS_mk (show aExtract _ _=some _ from rfl) ?_
 refine bindS_mk b_eql ?_
 refine i_split (fun c=>?_) (fun c=>?_)
 · replace c:=eq_of_beq c
   have hp:=par_print (l:=keptF l) (fun e he=>(keptF_ok hok e he).page) (t:=(printF (keptF l)).1) (by rw [← c])
   refine callE2 (parseP (printF (keptF l)).1 h2) ?_
   rw [hp]
   rintro e h3 ⟨y3,rfl,s3,n3,f3⟩
   refine ⟨_,rfl,?_⟩
   refine bindS_mk (show aExtract _ _=some _ from rfl) ?_
   refine bindS_mk (show aExtract _ _=some _ from rfl) ?_
   refine bindS_mk (show aExtract _ _=some _ from rfl) ?_
   refine bindS_mk b_neq ?_
   refine g_ff ?_
   refine bindS_mk b_neq ?_
   refine Meet.of (cast_p (Gz2_eq _ _ _ _ _ _ _) ?_)
   refine bindV_mk p_f ?_
   refine g_ff ?_
   have s1'':=s1'.keep n3 f3
   refine callS (sameP _ _ (Nat.le_trans (keptF_len l) (by decide)) (fun e he=>Nat.le_trans (keptF_keep he) (by decide)) s1'' s3) ?_
   rw [decide_eq_true (rfl:keptF l=keptF l)]
   refine bindS_mk u_not ?_
   refine Meet.of (cast_p (Gz3_eq _ _ _ _ _) ?_)
   refine bindV_mk p_f ?_
   refine Meet.of (cast_p (Jz1t_eq _ _ _ _) ?_)
   refine i_f ?_
   exact Meet.of (back2 s h3)
 · exact Meet.of (back2 s h2)
end Go.Proofs.YtcglbpjpbjaecaaGreat.Sh
namespace Go.Proofs.YtcglbpjpbjaecaaGreat.Op
open Go Go.Ab Go.RowKit
open Go.Proofs.YtcglbpjpbjaecaaGreat.Ru (Pg okP)
set_option maxRecDepth 10000
def ev (x0 x1 x2 x3 k:V):V:=.agg [x0,x1,x2,x3,k]
theorem f5:flatTy Pg 10 5=true:=by kernel_rfl
theorem f3:flatTy Pg 10 3=true:=by kernel_rfl
theorem f57:flatTy Pg 10 57=true:=by kernel_rfl
theorem cells73:Pg.cellsOf 73=9:=by kernel_rfl
theorem cells4:Pg.cellsOf 4=1:=by kernel_rfl
theorem bytes4:Pg.bytesOf 4=1:=by kernel_rfl
noncomputable def fs73:List Field:=match Pg.underlying 73 with | some (.struct fs)=>fs.toList | _=>[]
theorem u73:Pg.underlying 73=some (.struct fs73.toArray):=by kernel_rfl
theorem fs73_get:fs73.map (fun f=>(f.type,f.offset,Pg.cellsOf f.type))=[(5,0,1),(3,1,1),(3,2,1),(57,3,5),(71,8,1)]:=by kernel_rfl
theorem fs73_types:fs73.map (·.type)=[5,3,3,57,71]:=by kernel_rfl
def h1 (l:List V):AH:=⟨1,fun n=>if n=0 then some (.cells false (.row 4) (.agg l)) else none⟩
def ι1 (L:Go.Ab.Loc):Names:=fun n=>if n=0 then some L else none
theorem bools {c:Array Value}:∀ (n off:Nat),(∀ i,i < n→∃ b,c[off + i]?=some (.bool b))→∃ bs:List Bool,bs.length=n∧(c.toList.drop off).take n=bs.map Value.bool
 | 0,off,_=>⟨[],rfl,by simp⟩
 | n + 1,off,h=>by
   obtain ⟨b,hb⟩:=h 0 (by omega)
   obtain ⟨bs,h1,h2⟩:=bools n (off + 1) fun i hi=>by
     have:=h (i + 1) (by omega)
     rw [show off + 1 + i=off + (i + 1) by omega];exact this
   refine ⟨b :: bs,by simp [h1],?_⟩
   have hb':c.toList[off]?=some (.bool b):=by simpa using hb
   obtain ⟨hlt,he⟩:=List.getElem?_eq_some_iff.1 hb'
   rw [List.drop_eq_getElem_cons hlt,List.take_succ_cons,he,h2];rfl
theorem relCs_bools (ι:Names):∀ bs:List Bool,relCs Pg ι (bs.map V.bool) (bs.map Value.bool)
 | []=>by simp [relCs]
 | b :: bs=>by
   have:=relCs_cons (P:=Pg) (ι:=ι) (v:=.bool b) (a:=[.bool b]) (by simp [relC]) (relCs_bools ι bs)
   simpa using this
theorem shapes_bools:∀ bs:List Bool,shapesAll Pg (bs.map V.bool) 4=true
 | []=>by simp [shapesAll]
 | b :: bs=>by
   have:hasShape Pg (.bool b) 4=true:=by kernel_rfl
   simp only [List.map_cons,shapesAll,this,shapes_bools bs,Bool.and_self]
theorem u4:Pg.underlying 4=some .bool:=by kernel_rfl
theorem u71':Pg.underlying 71=some (.slice 4):=by kernel_rfl
theorem one_bool {H:Type} {enc:TypeId × Value→H} {W:World} {a:Addr} {c:Array Value} {elem:TypeId} {fr:Nat × Nat} (hb:W.heap[a.block]?=some (.cells c elem fr)) (hs:a.spot=none) {n k:Nat} {y:DataW H × List MemPlace}
   (h:(W.cells? 0 (a.add (k * Pg.cellsOf 4)) (Pg.cellsOf 4)).bind (DataW.trod enc Pg W 0 (fun _=>true) true n 4)=some y):∃ b,c[a.off + k]?=some (.bool b):=by
 rw [cells4,Nat.mul_one] at h
 obtain ⟨cl,h1,h2⟩:=Option.bind_eq_some_iff.1 h
 obtain ⟨b,rfl,_⟩:=DataW.trod_bool u4 h2
 refine ⟨b,?_⟩
 simp only [World.cells?,Nat.zero_le,if_true] at h1
 simp only [List.range_succ,List.range_zero,List.nil_append,List.mapM_cons,List.mapM_nil] at h1
 have hc:W.cell? ((a.add k).add 0)=c[a.off + k]?:=by
   have e0:(a.add k).add 0=a.add k:=by simp [Addr.add]
   have e1:(a.add k).block=a.block∧(a.add k).off=a.off + k∧(a.add k).spot=none:=by
     unfold Addr.add
     split
     · rename_i h;subst h;exact ⟨rfl,rfl,hs⟩
     · exact ⟨rfl,rfl,rfl⟩
   rw [e0]
   simp only [World.cell?,e1.1,e1.2.1,e1.2.2,hb,Option.isSome_none]
   simp
 rw [hc] at h1
 cases hq:c[a.off + k]? with
 | none=>rw [hq] at h1;simp at h1
 | some z=>rw [hq] at h1;simp at h1;rw [h1]
end Go.Proofs.YtcglbpjpbjaecaaGreat.Op
namespace Go.Proofs.YtcglbpjpbjaecaaGreat.Op
open Go Go.Ab Go.RowKit
open Go.Proofs.YtcglbpjpbjaecaaGreat.Ru (Pg okP)
open Go.Proofs.YtcglbpjpbjaecaaGreat.Sh
set_option maxRecDepth 10000
variable {H:Type} {enc:TypeId × Value→H} {W:World}
def kOf (i:Nat) (L:Option Go.Ab.Loc) (l:List Bool):V:=match L with
 | none=>.slc none 0
 | some _=>.slc (some (⟨i,.row 4,[]⟩,0)) l.length
theorem call_of {x:V} {M:Nat} (hM:M≤140737488355328) (s:hasShape Pg x 57=true) (g:good M x=true):∃ (ck txn page:Nat) (off:Int) (t:List UInt8),x=.agg [.int .u8 ck,.int .u64 txn,.int .u16 page,.int .i64 off,.str t]∧ck < 256∧txn < 18446744073709551616∧page < 65536 ∧
   (-9223372036854775808≤off∧off < 9223372036854775808)∧t.length≤140737488355328:=by
 obtain ⟨l1,rfl,q⟩:=inv_struct (ts:=[5,49,22,3,9]) (by kernel_rfl) s
 obtain ⟨y0,l1,rfl,g0,q⟩:=inv_cons q
 obtain ⟨y1,l1,rfl,g1,q⟩:=inv_cons q
 obtain ⟨y2,l1,rfl,g2,q⟩:=inv_cons q
 obtain ⟨y3,l1,rfl,g3,q⟩:=inv_cons q
 obtain ⟨y4,l1,rfl,g4,q⟩:=inv_cons q
 obtain rfl:=inv_nil q
 obtain ⟨m0,rfl⟩:=inv_int (k:=.u8) (by kernel_rfl) g0
 obtain ⟨m1,rfl⟩:=inv_int (k:=.u64) (by kernel_rfl) g1
 obtain ⟨m2,rfl⟩:=inv_int (k:=.u16) (by kernel_rfl) g2
 obtain ⟨m3,rfl⟩:=inv_int (k:=.i64) (by kernel_rfl) g3
 obtain ⟨s4,rfl⟩:=inv_str (by kernel_rfl) g4
 simp only [good,goods,Bool.and_true,Bool.and_eq_true,decide_eq_true_eq] at g
 obtain ⟨c0,c1,c2,c3,c4⟩:=g
 have d0:=wf_u8 c0;have d1:=wf_u64 c1;have d2:=wf_u16 c2;have d3:=wf_i64 c3
 refine ⟨m0.toNat,m1.toNat,m2.toNat,m3,s4,?_,by omega,by omega,by omega,d3,by omega⟩
 rw [show ((m0.toNat:Nat):Int)=m0 by omega,show ((m1.toNat:Nat):Int)=m1 by omega,show ((m2.toNat:Nat):Int)=m2 by omega]
theorem cell_at {a:Addr} {e:TypeId} (he:Pg.cellsOf e=1) {m:Nat} {y:DataW H × List MemPlace} (h:(W.cells? 0 (a.add (0 * Pg.cellsOf e)) (Pg.cellsOf e)).bind (DataW.trod enc Pg W 0 (fun _=>true) true m e)=some y) :
   a.spot=none∧∃ c elem fr,W.heap[a.block]?=some (.cells c elem fr):=by
 rw [he] at h
 obtain ⟨cl,h1,_⟩:=Option.bind_eq_some_iff.1 h
 have e0:(a.add (0 * 1)).add 0=a:=by simp [Addr.add]
 simp only [World.cells?,Nat.zero_le,if_true,List.range_succ,List.range_zero,List.nil_append,List.mapM_cons,List.mapM_nil] at h1
 rw [e0] at h1
 cases hc:W.cell? a with
 | none=>rw [hc] at h1;simp at h1
 | some z =>
   unfold World.cell? at hc
   split at hc
   · rename_i c elem fr hb
     refine ⟨?_,c,elem,fr,hb⟩
     split at hc
     · cases hc
     · rename_i hs;simpa using hs
   · cases hc
theorem open_event {m0:Nat} {cl:List Value} {d:DataW H} {ps:List MemPlace} (h:DataW.trod enc Pg W 0 (fun _=>true) true m0 73 cl=some (d,ps)) (hw:∀ n∈d.weights Pg 73,n≤reachBytes)
   {b0:Nat} {c0:Array Value} {e0:TypeId} {f0:Nat × Nat} (hb0:W.heap[b0]?=some (.cells c0 e0 f0)) (i:Nat) :
   ∃ (e:Ev) (L:Option Go.Ab.Loc),e.ok∧(L=none→e.keep=[])∧(∀ ι:Names,(∀ L',L=some L'→ι i=some L')→relC Pg ι (evV e (kOf i L e.keep)) cl) ∧
     (∀ L',L=some L'→∀ ι,objR Pg ι W L' (.cells false (.row 4) (.agg (boolsV e.keep)))):=by
 obtain ⟨xs,m,rfl,hx,hl,hlen,hf⟩:=DataW.trod_struct u73 h
 simp only [Prod.mk.injEq] at hx
 obtain ⟨rfl,_⟩:=hx
 rw [cells73] at hl
 have hfl:fs73.length=5:=by have:=congrArg List.length fs73_get;simpa using this
 have hlen5:xs.length=5:=by simpa [hfl] using hlen
 simp only [DataW.weights,u73,fs73_types] at hw
 have field:∀ (i t off sz:Nat) (y:DataW H × List MemPlace),[(5,0,1),(3,1,1),(3,2,1),(57,3,5),(71,8,1)][i]?=some (t,off,sz)→xs[i]?=some y →
     DataW.trod enc Pg W 0 (fun _=>true) true m t ((cl.drop off).take sz)=some y∧∀ n∈y.1.weights Pg t,n≤reachBytes:=by
   intro i t off sz y hi hy
   rw [← fs73_get,List.getElem?_map] at hi
   cases hfi:fs73[i]? with
   | none=>rw [hfi] at hi;cases hi
   | some f =>
     rw [hfi] at hi
     simp only [Option.map_some,Option.some.injEq,Prod.mk.injEq] at hi
     obtain ⟨rfl,rfl,rfl⟩:=hi
     have e1:=hf i f (by simpa using hfi)
     rw [hy] at e1
     refine ⟨e1,fun n hn=>hw n ?_⟩
     refine DataW.weights_mem_each (j:=i) (t:=f.type) (d:=y.1) ?_ (by rw [List.getElem?_map,hy];rfl) n hn
     rw [← fs73_types,List.getElem?_map,hfi];rfl
 match xs,hlen5 with
 | [y0,y1,y2,y3,y4],_ =>
 obtain ⟨t0,w0⟩:=field 0 5 0 1 y0 rfl rfl
 obtain ⟨t1,w1⟩:=field 1 3 1 1 y1 rfl rfl
 obtain ⟨t2,w2⟩:=field 2 3 2 1 y2 rfl rfl
 obtain ⟨t3,w3⟩:=field 3 57 3 5 y3 rfl rfl
 obtain ⟨t4,w4⟩:=field 4 71 8 1 y4 rfl rfl
 obtain ⟨⟨x0,s0,g0,r0⟩,_⟩:=trod_tree okP.lay m 10 5 _ y0 f5 t0 w0
 obtain ⟨⟨x1,s1,g1,r1⟩,_⟩:=trod_tree okP.lay m 10 3 _ y1 f3 t1 w1
 obtain ⟨⟨x2,s2,g2,r2⟩,_⟩:=trod_tree okP.lay m 10 3 _ y2 f3 t2 w2
 obtain ⟨⟨x3,s3,g3,r3⟩,_⟩:=trod_tree okP.lay m 10 57 _ y3 f57 t3 w3
 obtain ⟨kd,rfl⟩:=inv_int (k:=.u8) (by kernel_rfl) s0
 obtain ⟨ea,rfl⟩:=inv_int (k:=.i64) (by kernel_rfl) s1
 obtain ⟨eb,rfl⟩:=inv_int (k:=.i64) (by kernel_rfl) s2
 obtain ⟨ck,txn,page,off,tx,rfl,p0,p1,p2,p3,p4⟩:=call_of (by decide) s3 g3
 have q0:=wf_u8 g0
 have q1:=wf_i64 g1
 have q2:=wf_i64 g2
 have split:cl=(cl.drop 0).take 1++((cl.drop 1).take 1++((cl.drop 2).take 1++((cl.drop 3).take 5++((cl.drop 8).take 1++[])))):=by
   match cl,hl with
   | [c0,c1,c2,c3,c4,c5,c6,c7,c8],_=>rfl
 have whole:∀ (ι:Names) (k:V) (keep:List Bool),relC Pg ι k ((cl.drop 8).take 1)→relC Pg ι (evV ⟨kd.toNat,ea,eb,ck,txn,page,off,tx,keep⟩ k) cl:=by
   intro ι k keep hk
   have ek:((kd.toNat:Nat):Int)=kd:=by omega
   show relCs Pg ι [.int .u8 ((kd.toNat:Nat):Int),.int .i64 ea,.int .i64 eb,.agg [.int .u8 ck,.int .u64 txn,.int .u16 page,.int .i64 off,.str tx],k] cl
   rw [ek,split]
   exact relCs_cons (r0 ι) (relCs_cons (r1 ι) (relCs_cons (r2 ι) (relCs_cons (r3 ι) (relCs_cons hk (by simp [relCs])))))
 have okE:∀ keep:List Bool,keep.length≤140737488355328→Ev.ok ⟨kd.toNat,ea,eb,ck,txn,page,off,tx,keep⟩:=fun keep hk=>⟨by show kd.toNat < 256;omega,q1,q2,p0,p1,p2,p3,p4,hk⟩
 rcases DataW.trod_slice u71' t4 with ⟨hc,_⟩ | ⟨a,len,cap,elems,rest,n,rfl,hc,hy,_,hlc,hcm,hel,hcell4,hsp,_⟩
 · exact ⟨_,none,okE [] (by simp),fun _=>rfl,fun ι _=>whole ι _ [] (by rw [hc];simp [relC,kOf]),fun L' h=>by cases h⟩
 · obtain ⟨hr1,hr2⟩:=hsp rfl
   have hlenw:len≤reachBytes:=by
     have:=w4 ((elems.length + rest.length) * Pg.bytesOf 4) (by rw [hy];simp [DataW.weights,u71'])
     rw [bytes4] at this
     omega
   by_cases h0:cap=0
   · have hl0:len=0:=by omega
     refine ⟨_,some ⟨b0,0,c0.size,.row 4⟩,okE [] (by simp),(fun h=>by cases h),fun ι hι=>whole ι _ [] ?_,fun L' hL' ι=>?_⟩
     · rw [hc,h0,hl0]
       simp only [relC,kOf,List.length_nil]
       exact ⟨a,0,Nat.le_refl _,⟨_,hι _ rfl⟩,fun h=>by omega,rfl⟩
     · cases hL'
       exact ⟨rfl,shapes_bools [],[],[],c0.toList,e0,f0,by rw [hb0];simp,rfl,by simp,by simp [boolsV,relC,relCs],fun h=>by cases h⟩
   · obtain ⟨hspot,c,elem,fr,hb⟩:a.spot=none∧∃ c elem fr,W.heap[a.block]?=some (.cells c elem fr):=by
       by_cases hl0:0 < len
       · have e:=hcell4 0 hl0
         rw [List.getElem?_eq_getElem (by omega)] at e
         exact cell_at cells4 e
       · have e:=hr2 0 (by omega)
         rw [List.getElem?_eq_getElem (by omega),show len + 0=0 by omega] at e
         exact cell_at cells4 e
     have hall:∀ i,i < cap→∃ b,c[a.off + i]?=some (.bool b):=by
       intro i hi
       by_cases hil:i < len
       · have e:=hcell4 i hil
         rw [List.getElem?_eq_getElem (by omega)] at e
         exact one_bool hb hspot e
       · have e:=hr2 (i - len) (by omega)
         rw [List.getElem?_eq_getElem (by omega),show len + (i - len)=i by omega] at e
         exact one_bool hb hspot e
     have hsz:a.off + cap≤c.size:=by
       obtain ⟨b,hq⟩:=hall (cap - 1) (by omega)
       have:=(Array.getElem?_eq_some_iff.1 hq).1
       omega
     obtain ⟨bs,hbl,hbs⟩:=bools len a.off fun i hi=>hall i (by omega)
     have hab:a=⟨a.block,a.off,none⟩:=by cases a;simp at hspot;rw [hspot]
     refine ⟨_,some ⟨a.block,a.off,c.size,.row 4⟩,okE bs (by rw [hbl];exact Nat.le_trans hlenw (by decide)),(fun h=>by cases h),fun ι hι=>whole ι _ bs ?_,fun L' hL' ι=>?_⟩
     · rw [hc]
       simp only [relC,kOf]
       rw [hbl]
       refine ⟨a,cap,hlc,⟨_,hι _ rfl⟩,fun h0=>⟨⟨a.block,a.off,c.size,.row 4⟩,0,4,hι _ rfl,rfl,rfl,?_,?_⟩,rfl⟩
       · rw [hab];simp
       · rw [cells4];simp;omega
     · cases hL'
       refine ⟨rfl,shapes_bools bs,c.toList.take a.off,bs.map Value.bool,c.toList.drop (a.off + len),elem,fr,?_,by simp;omega,?_,?_,fun h=>by cases h⟩
       · rw [← hbs,hb]
         have:c.toList.take a.off++(c.toList.drop a.off).take len++c.toList.drop (a.off + len)=c.toList:=by
           rw [List.append_assoc,← List.drop_drop,List.take_append_drop,List.take_append_drop]
         rw [this]
       · simp;omega
       · simp only [relC,boolsV];exact relCs_bools _ bs
end Go.Proofs.YtcglbpjpbjaecaaGreat.Op
namespace Go.Proofs.YtcglbpjpbjaecaaGreat.Op
open Go Go.Ab Go.RowKit
open Go.Proofs.YtcglbpjpbjaecaaGreat.Ru (Pg okP)
open Go.Proofs.YtcglbpjpbjaecaaGreat.Sh
set_option maxRecDepth 10000
variable {H:Type} {enc:TypeId × Value→H} {W:World}
theorem u84:Pg.underlying 84=some (.slice 73):=by kernel_rfl
theorem cells_take {a:Addr} {c:Array Value} {elem:TypeId} {fr:Nat × Nat} (hb:W.heap[a.block]?=some (.cells c elem fr)) (hs:a.spot=none) {k n:Nat} (hn:0 < n) {cl:List Value} (h:W.cells? 0 (a.add k) n=some cl) :
   cl=(c.toList.drop (a.off + k)).take n∧a.off + k + n≤c.size:=by
 simp only [World.cells?,Nat.zero_le,if_true] at h
 have hl:cl.length=n:=by simpa using mapM_some_length h
 have hg:∀ j,j < n→W.cell? ((a.add k).add j)=cl[j]?:=fun j hj=>mapM_some_get h j j (by simp [hj])
 have hc:∀ j,j < n→c[a.off + k + j]?=cl[j]?:=by
   intro j hj
   rw [← hg j hj]
   have e1:((a.add k).add j).block=a.block∧((a.add k).add j).off=a.off + k + j∧((a.add k).add j).spot=none:=by
     unfold Addr.add
     by_cases h1:k=0
     · subst h1
       by_cases h2:j=0
       · subst h2;exact ⟨rfl,rfl,hs⟩
       · simp [h2]
     · by_cases h2:j=0
       · subst h2;simp [h1]
       · simp [h1,h2]
   simp only [World.cell?,e1.1,e1.2.1,e1.2.2,hb,Option.isSome_none]
   simp
 have hsz:a.off + k + n≤c.size:=by
   have:=hc (n - 1) (by omega)
   rw [List.getElem?_eq_getElem (by omega)] at this
   have:=(Array.getElem?_eq_some_iff.1 this).1
   omega
 refine ⟨?_,hsz⟩
 apply List.ext_getElem?
 intro j
 by_cases hj:j < n
 · rw [← hc j hj,List.getElem?_take,if_pos hj,List.getElem?_drop];simp
 · rw [List.getElem?_eq_none (by omega),List.getElem?_eq_none (by simp;omega)]
theorem rows9 {ι:Names} {c:List Value} {o:Nat} {X:Nat→V}:∀ (n i:Nat),(∀ k,k < n→relC Pg ι (X (i + k)) ((c.drop (o + 9 * (i + k))).take 9))→relCs Pg ι ((List.range' i n).map X) ((c.drop (o + 9 * i)).take (9 * n))
 | 0,i,_=>by simp [relCs]
 | n + 1,i,h=>by
   have h0:=h 0 (by omega)
   have ih:=rows9 (X:=X) n (i + 1) fun k hk=>by
     have:=h (k + 1) (by omega)
     rw [show i + 1 + k=i + (k + 1) by omega];exact this
   rw [List.range'_succ,List.map_cons,show 9 * (n + 1)=9 + 9 * n by omega,List.take_add,List.drop_drop]
   rw [show o + 9 * i + 9=o + 9 * (i + 1) by omega]
   exact relCs_cons h0 ih
theorem shK (e:Ev) (i:Nat) (L:Option Go.Ab.Loc) (l:List Bool):hasShape Pg (evV e (kOf i L l)) 73=true:=by
 cases L with
 | none=>exact s73 e none 0
 | some L=>exact s73 e _ _
theorem shapes_evs {X:Nat→V} (h:∀ i,hasShape Pg (X i) 73=true):∀ l:List Nat,shapesAll Pg (l.map X) 73=true
 | []=>by simp [shapesAll]
 | i :: l=>by simp only [List.map_cons,shapesAll,h i,shapes_evs h l,Bool.and_self]
theorem weightsAll_mem {e:TypeId}:∀ {ds:List (DataW H)} {d:DataW H} {n:Nat},d∈ds→n∈d.weights Pg e→n∈DataW.weightsAll Pg e ds
 | x :: ds,d,n,hd,hn=>by
   simp only [DataW.weightsAll,List.mem_append]
   rcases List.mem_cons.1 hd with rfl | hd
   · exact .inl hn
   · exact .inr (weightsAll_mem hd hn)
theorem open_script {base:Nat} {v:Value} {d:DataW H} {ps:List MemPlace} (hv:Value.okWide Pg W .any base 84 v)
   (h:DataW.Trod enc Pg W 0 (fun _=>true) true 84 v d ps) (hw:∀ n∈d.weights Pg 84,n≤reachBytes) :
   ∃ (l:List Ev) (hh:AH) (x:V) (ι:Names),(∀ e∈l,e.ok)∧ScrA hh x l∧Fits Pg ⟨fun b=>b < W.heap.size,W⟩ ι hh W∧rel Pg ι x v:=by
 obtain ⟨fuel,h⟩:=h
 simp only [Value.okWide,u84,Cell.okWide] at hv
 rcases DataW.trod_slice u84 h with ⟨hc,_⟩ | ⟨a,len,cap,elems,rest,n,rfl,hc,hy,_,hlc,hcm,hel,hcell,hsp,_⟩
 · have ev:v=.slice none 0 0:=by
     cases v <;> simp only [Cell.ok,u84] at hv <;> first | (exact hv.elim) | (simpa [Value.cells] using hc)
   subst ev
   exact ⟨[],AH0,.slc none 0,fun _=>none,(fun e he=>by cases he),.inl ⟨rfl,rfl⟩,fits0 W,.inr ⟨rfl,by simp [relC,Value.cells]⟩⟩
 · have ev:v=.slice (some a) len cap:=by
     cases v <;> simp only [Cell.ok,u84] at hv <;> first | (exact hv.elim) | (simpa [Value.cells] using hc)
   subst ev
   simp only [Cell.ok,u84] at hv
   obtain ⟨_,_,_,hspot,row,cells,hshape,_⟩:=hv
   obtain ⟨c,elem,fr,hb⟩:∃ c elem fr,W.heap[a.block]?=some (.cells c elem fr):=by
     unfold World.shape? at hshape
     split at hshape
     · rename_i c elem fr hb;exact ⟨c,elem,fr,hb⟩
     · cases hshape
   obtain ⟨hr1,hr2⟩:=hsp rfl
   have hd:d=.slice (elems.map (·.1)) (rest.map (·.1)):=by simpa using congrArg Prod.fst hy
   -- each event
   have one:∀ i,∃ (e:Ev) (L:Option Go.Ab.Loc),i < len→e.ok∧(L=none→e.keep=[]) ∧
       (∀ ι:Names,(∀ L',L=some L'→ι i=some L')→relC Pg ι (evV e (kOf i L e.keep)) ((c.toList.drop (a.off + 9 * i)).take 9)) ∧
       (∀ L',L=some L'→∀ ι,objR Pg ι W L' (.cells false (.row 4) (.agg (boolsV e.keep)))):=by
     intro i
     by_cases hi:i < len
     · have e1:=hcell i hi
       rw [List.getElem?_eq_getElem (by omega),cells73] at e1
       obtain ⟨cl,q1,q2⟩:=Option.bind_eq_some_iff.1 e1
       obtain ⟨t1,_⟩:=cells_take hb hspot (by omega) q1
       obtain ⟨e,L,g1,g2,g3,g4⟩:=open_event (d:=elems[i].1) (ps:=elems[i].2) q2 (fun n hn=>hw n (by
         rw [hd]
         simp only [DataW.weights,u84,List.mem_cons,List.mem_append]
         exact .inr (.inl (weightsAll_mem (List.mem_map.2 ⟨elems[i],List.getElem_mem _,rfl⟩) hn)))) hb i
       rw [t1,show i * 9=9 * i by omega] at g3
       exact ⟨e,L,fun _=>⟨g1,g2,g3,g4⟩⟩
     · exact ⟨⟨0,0,0,0,0,0,0,[],[]⟩,none,fun h=>absurd h hi⟩
   obtain ⟨E,one⟩:=Classical.axiomOfChoice one
   obtain ⟨LL,one⟩:=Classical.axiomOfChoice one
   obtain ⟨off,hoff,hoff2⟩:∃ off,(0 < cap→off=a.off)∧off + 9 * cap≤c.size:=by
     by_cases h0:cap=0
     · exact ⟨0,fun h=>by omega,by omega⟩
     · refine ⟨a.off,fun _=>rfl,?_⟩
       have last:∃ (y:DataW H × List MemPlace),(W.cells? 0 (a.add ((cap - 1) * Pg.cellsOf 73)) (Pg.cellsOf 73)).bind (DataW.trod enc Pg W 0 (fun _=>true) true n 73)=some y:=by
         by_cases hl:cap - 1 < len
         · exact ⟨_,(hcell _ hl).trans (List.getElem?_eq_getElem (by omega))⟩
         · have e:=hr2 (cap - 1 - len) (by omega)
           rw [show len + (cap - 1 - len)=cap - 1 by omega] at e
           exact ⟨_,e.trans (List.getElem?_eq_getElem (by omega))⟩
       obtain ⟨y,hy⟩:=last
       rw [cells73] at hy
       obtain ⟨cl,q1,_⟩:=Option.bind_eq_some_iff.1 hy
       have:=(cells_take hb hspot (by omega) q1).2
       omega
   let X:Nat→V:=fun i=>evV (E i) (kOf i (LL i) (E i).keep)
   let xs:List V:=(List.range' 0 len).map X
   let Lo:Go.Ab.Loc:=⟨a.block,off,c.size,.row 73⟩
   let hh:AH:=⟨len + 1,fun n=>if n=len then some (.cells false (.row 73) (.agg xs)) else if n < len then (LL n).map fun _=>.cells false (.row 4) (.agg (boolsV (E n).keep)) else none⟩
   let ι:Names:=fun n=>if n=len then some Lo else if n < len then LL n else none
   have hι:∀ i,i < len→∀ L',LL i=some L'→ι i=some L':=fun i hi L' hL=>by
     show (if i=len then some Lo else if i < len then LL i else none)=some L'
     rw [if_neg (by omega),if_pos hi,hL]
   have hml:hh.m len=some (.cells false (.row 73) (.agg xs)):=by
     show (if len=len then _ else _)=_
     rw [if_pos rfl]
   have hmi:∀ i,i < len→hh.m i=(LL i).map fun _=>AO.cells false (.row 4) (.agg (boolsV (E i).keep)):=fun i hi=>by
     show (if i=len then _ else if i < len then _ else none)=_
     rw [if_neg (by omega),if_pos hi]
   have hxs:xs.length=len:=by simp [xs]
   have hrows:relCs Pg ι xs ((c.toList.drop off).take (9 * len)):=by
     by_cases h0:len=0
     · have:xs=[]:=List.length_eq_zero_iff.1 (by omega)
       rw [this,h0];simp [relCs]
     · have:=rows9 (ι:=ι) (c:=c.toList) (o:=off) (X:=X) len 0 (fun k hk=>by
         rw [hoff (by omega),Nat.zero_add]
         exact (one k hk).2.2.1 ι (hι k hk))
       simpa using this
   have hobj:objR Pg ι W Lo (.cells false (.row 73) (.agg xs)):=by
     refine ⟨rfl,shapes_evs (fun i=>shK _ _ _ _) _,c.toList.take off,(c.toList.drop off).take (9 * len),c.toList.drop (off + 9 * len),elem,fr,?_,(by show (c.toList.take off).length=off;simp;omega),?_,?_,fun h=>by cases h⟩
     · rw [hb]
       have:c.toList.take off++(c.toList.drop off).take (9 * len)++c.toList.drop (off + 9 * len)=c.toList:=by
         rw [List.append_assoc,← List.drop_drop,List.take_append_drop,List.take_append_drop]
       rw [this]
     · show _=c.size
       simp;omega
     · simp only [relC];exact hrows
   refine ⟨(List.range' 0 len).map E,hh,.slc (some (⟨len,.row 73,[]⟩,0)) len,ι,?_,?_,?_,?_⟩
   · intro e he
     obtain ⟨i,hi,rfl⟩:=List.mem_map.1 he
     have hi':i < len:=by rw [List.mem_range'] at hi;omega
     exact (one i hi').1
   · refine .inr ⟨len,false,xs,Nat.lt_succ_self _,by simp,hml,by simp [xs],fun i e he=>?_⟩
     have hi:i < len:=by
       have:=(List.getElem?_eq_some_iff.1 he).1
       simpa using this
     have he':e=E i:=by
       rw [List.getElem?_map,List.getElem?_range' hi] at he
       simpa using he.symm
     subst he'
     refine ⟨kOf i (LL i) (E i).keep,?_,?_⟩
     · show ((List.range' 0 len).map X)[i]?=_
       rw [List.getElem?_map,List.getElem?_range' hi]
       simp [X]
     · cases hL:LL i with
       | none=>exact .inl ⟨rfl,(one i hi).2.1 hL⟩
       | some L=>exact .inr ⟨i,false,by show i < len + 1;omega,rfl,by rw [hmi i hi,hL];rfl⟩
   · refine ⟨fun n o hm=>?_,fun n hn=>?_,fun n n' o o' L L' hm _ _ ho=>?_,fun n o L hm ho=>?_,fun b hb=>⟨rfl,hb⟩,rfl,rfl,rfl,Nat.le_refl _⟩
     · by_cases e:n=len
       · subst e
         rw [hml] at hm;cases hm
         exact ⟨Lo,by show (if n=n then _ else _)=_;rw [if_pos rfl],hobj⟩
       · by_cases hi:n < len
         · rw [hmi n hi] at hm
           cases hL:LL n with
           | none=>rw [hL] at hm;cases hm
           | some L =>
             rw [hL] at hm;cases hm
             exact ⟨L,hι n hi L hL,(one n hi).2.2.2 L hL ι⟩
         · have:hh.m n=none:=by
             show (if n=len then _ else if n < len then _ else none)=none
             rw [if_neg e,if_neg hi]
           rw [this] at hm;cases hm
     · have hn:len + 1≤n:=hn
       show (if n=len then _ else if n < len then _ else none)=none
       rw [if_neg (by omega),if_neg (by omega)]
     all_goals
       exfalso
       by_cases e:n=len
       · subst e;rw [hml] at hm;cases hm;cases ho
       · by_cases hi:n < len
         · rw [hmi n hi] at hm
           cases hL:LL n with
           | none=>rw [hL] at hm;cases hm
           | some L=>rw [hL] at hm;cases hm;cases ho
         · have:hh.m n=none:=by
             show (if n=len then _ else if n < len then _ else none)=none
             rw [if_neg e,if_neg hi]
           rw [this] at hm;cases hm
   · refine .inr ⟨rfl,?_⟩
     simp only [relC,Value.cells]
     refine ⟨a,cap,hlc,⟨Lo,by show (if len=len then _ else _)=_;rw [if_pos rfl]⟩,fun h0=>⟨Lo,0,73,by show (if len=len then _ else _)=_;rw [if_pos rfl],rfl,rfl,?_,?_⟩,rfl⟩
     · have hab:a=⟨a.block,a.off,none⟩:=by cases a;simp at hspot;rw [hspot]
       rw [hab];simp [Lo,hoff h0]
     · rw [cells73];simp [Lo];omega
end Go.Proofs.YtcglbpjpbjaecaaGreat.Op
