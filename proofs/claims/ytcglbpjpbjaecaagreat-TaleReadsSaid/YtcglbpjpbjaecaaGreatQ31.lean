import Derived.Test.YtcglbpjpbjaecaaGreatQ19
import Derived.Test.YtcglbpjpbjaecaaGreatQ30
import Derived.Test.YtcglbpjpbjaecaaGreatQ14
import Derived.Test.YtcglbpjpbjaecaaGreatQ15
import Derived.Test.YtcglbpjpbjaecaaGreatQ08
import Derived.Test.YtcglbpjpbjaecaaGreatQ18
set_option linter.unusedVariables false
set_option linter.unusedSimpArgs false
namespace Go.Proofs.YtcglbpjpbjaecaaGreat.Ru
open Go Go.Ab Go.RowKit
set_option maxRecDepth 100000
theorem Tarun23:(exTabM Pg FT hdT (orMemo hmT (allMemoC [])) pu 60).ex (V × HT) Tam23.f Tam23.args ⟨Tam23.H.next,Tam23.H.next,Tam23.H.tr⟩ (pairP [(1551,1)])=some (Tam23.v,Tam23.H'):=by kernel_rfl
theorem Tamok23 (hh:HdOk Pg hd):MemoOk Pg Tam23:=memo_ofP okP tabOk (hdT_ok hh) (orMemo_ok hmT_ok (allMemoC_ok (l:=[]) trivial)) [(1551,1)] (own_of Taown39) Tarun23
end Go.Proofs.YtcglbpjpbjaecaaGreat.Ru
namespace Go.Proofs.YtcglbpjpbjaecaaGreat.Ru
open Go Go.Ab Go.RowKit
set_option maxRecDepth 100000
theorem Tarun24:(exTabM Pg FT hdT (orMemo hmT (allMemoC [Tam23])) pu 60).ex (V × HT) Tam24.f Tam24.args ⟨Tam24.H.next,Tam24.H.next,Tam24.H.tr⟩ (pairP [(1548,4),(1553,1)])=some (Tam24.v,Tam24.H'):=by kernel_rfl
theorem Tamok24 (hh:HdOk Pg hd):MemoOk Pg Tam24:=memo_ofP okP tabOk (hdT_ok hh) (orMemo_ok hmT_ok (allMemoC_ok (l:=[Tam23]) ⟨Tamok23 hh,trivial⟩)) [(1548,4),(1553,1)] (own_of Taown41) Tarun24
end Go.Proofs.YtcglbpjpbjaecaaGreat.Ru
namespace Go.Proofs.YtcglbpjpbjaecaaGreat.Ru
open Go Go.Ab Go.RowKit
set_option maxRecDepth 100000
theorem Tarun25:(exTabM Pg FT hdT (orMemo hmT (allMemoC [])) pu 60).ex (V × HT) Tam25.f Tam25.args ⟨Tam25.H.next,Tam25.H.next,Tam25.H.tr⟩ (pairP [])=some (Tam25.v,Tam25.H'):=by kernel_rfl
theorem Tamok25 (hh:HdOk Pg hd):MemoOk Pg Tam25:=memo_ofP okP tabOk (hdT_ok hh) (orMemo_ok hmT_ok (allMemoC_ok (l:=[]) trivial)) [] (own_of Taown43) Tarun25
end Go.Proofs.YtcglbpjpbjaecaaGreat.Ru
namespace Go.Proofs.YtcglbpjpbjaecaaGreat.Ru
open Go Go.Ab Go.RowKit
set_option maxRecDepth 100000
theorem Tarun26:(exTabM Pg FT hdT (orMemo hmT (allMemoC [Tam25])) pu 60).ex (V × HT) Tam26.f Tam26.args ⟨Tam26.H.next,Tam26.H.next,Tam26.H.tr⟩ (pairP [])=some (Tam26.v,Tam26.H'):=by kernel_rfl
theorem Tamok26 (hh:HdOk Pg hd):MemoOk Pg Tam26:=memo_ofP okP tabOk (hdT_ok hh) (orMemo_ok hmT_ok (allMemoC_ok (l:=[Tam25]) ⟨Tamok25 hh,trivial⟩)) [] (own_of Taown43) Tarun26
end Go.Proofs.YtcglbpjpbjaecaaGreat.Ru
namespace Go.Proofs.YtcglbpjpbjaecaaGreat.Ru
open Go Go.Ab Go.RowKit
set_option maxRecDepth 100000
theorem Tarun27:(exTabM Pg FT hdT (orMemo hmT (allMemoC [Tam26])) pu 60).ex (V × HT) Tam27.f Tam27.args ⟨Tam27.H.next,Tam27.H.next,Tam27.H.tr⟩ (pairP [])=some (Tam27.v,Tam27.H'):=by kernel_rfl
theorem Tamok27 (hh:HdOk Pg hd):MemoOk Pg Tam27:=memo_ofP okP tabOk (hdT_ok hh) (orMemo_ok hmT_ok (allMemoC_ok (l:=[Tam26]) ⟨Tamok26 hh,trivial⟩)) [] (own_of Taown43) Tarun27
end Go.Proofs.YtcglbpjpbjaecaaGreat.Ru
namespace Go.Proofs.YtcglbpjpbjaecaaGreat.Ru
open Go Go.Ab Go.RowKit
set_option maxRecDepth 100000
theorem Tarun28:(exTabM Pg FT hdT (orMemo hmT (allMemoC [Tam27])) pu 60).ex (V × HT) Tam28.f Tam28.args ⟨Tam28.H.next,Tam28.H.next,Tam28.H.tr⟩ (pairP [(1557,3),(1562,2)])=some (Tam28.v,Tam28.H'):=by kernel_rfl
theorem Tamok28 (hh:HdOk Pg hd):MemoOk Pg Tam28:=memo_ofP okP tabOk (hdT_ok hh) (orMemo_ok hmT_ok (allMemoC_ok (l:=[Tam27]) ⟨Tamok27 hh,trivial⟩)) [(1557,3),(1562,2)] (own_of Taown43) Tarun28
end Go.Proofs.YtcglbpjpbjaecaaGreat.Ru
namespace Go.Proofs.YtcglbpjpbjaecaaGreat.Ru
open Go Go.Ab Go.RowKit
set_option maxRecDepth 100000
theorem Tarun29:(exTabM Pg FT hdT (orMemo hmT (allMemoC [Tam28])) pu 60).ex (V × HT) Tam29.f Tam29.args ⟨Tam29.H.next,Tam29.H.next,Tam29.H.tr⟩ (pairP [(1557,3),(1562,3)])=some (Tam29.v,Tam29.H'):=by kernel_rfl
theorem Tamok29 (hh:HdOk Pg hd):MemoOk Pg Tam29:=memo_ofP okP tabOk (hdT_ok hh) (orMemo_ok hmT_ok (allMemoC_ok (l:=[Tam28]) ⟨Tamok28 hh,trivial⟩)) [(1557,3),(1562,3)] (own_of Taown43) Tarun29
end Go.Proofs.YtcglbpjpbjaecaaGreat.Ru
namespace Go.Proofs.YtcglbpjpbjaecaaGreat.Ru
open Go Go.Ab Go.RowKit
set_option maxRecDepth 100000
theorem Tarun30:(exTabM Pg FT hdT (orMemo hmT (allMemoC [])) pu 60).ex (V × HT) Tam30.f Tam30.args ⟨Tam30.H.next,Tam30.H.next,Tam30.H.tr⟩ (pairP [])=some (Tam30.v,Tam30.H'):=by kernel_rfl
theorem Tamok30 (hh:HdOk Pg hd):MemoOk Pg Tam30:=memo_ofP okP tabOk (hdT_ok hh) (orMemo_ok hmT_ok (allMemoC_ok (l:=[]) trivial)) [] (own_of Taown45) Tarun30
end Go.Proofs.YtcglbpjpbjaecaaGreat.Ru
namespace Go.Proofs.YtcglbpjpbjaecaaGreat.Ru
open Go Go.Ab Go.RowKit
set_option maxRecDepth 100000
theorem Tarun31:(exTabM Pg FT hdT (orMemo hmT (allMemoC [Tam30])) pu 60).ex (V × HT) Tam31.f Tam31.args ⟨Tam31.H.next,Tam31.H.next,Tam31.H.tr⟩ (pairP [])=some (Tam31.v,Tam31.H'):=by kernel_rfl
theorem Tamok31 (hh:HdOk Pg hd):MemoOk Pg Tam31:=memo_ofP okP tabOk (hdT_ok hh) (orMemo_ok hmT_ok (allMemoC_ok (l:=[Tam30]) ⟨Tamok30 hh,trivial⟩)) [] (own_of Taown45) Tarun31
end Go.Proofs.YtcglbpjpbjaecaaGreat.Ru
namespace Go.Proofs.YtcglbpjpbjaecaaGreat.Ru
open Go Go.Ab Go.RowKit
set_option maxRecDepth 100000
theorem Tarun32:(exTabM Pg FT hdT (orMemo hmT (allMemoC [Tam31])) pu 60).ex (V × HT) Tam32.f Tam32.args ⟨Tam32.H.next,Tam32.H.next,Tam32.H.tr⟩ (pairP [])=some (Tam32.v,Tam32.H'):=by kernel_rfl
theorem Tamok32 (hh:HdOk Pg hd):MemoOk Pg Tam32:=memo_ofP okP tabOk (hdT_ok hh) (orMemo_ok hmT_ok (allMemoC_ok (l:=[Tam31]) ⟨Tamok31 hh,trivial⟩)) [] (own_of Taown45) Tarun32
end Go.Proofs.YtcglbpjpbjaecaaGreat.Ru
namespace Go.Proofs.YtcglbpjpbjaecaaGreat.Ru
open Go Go.Ab Go.RowKit
set_option maxRecDepth 100000
theorem Tarun33:(exTabM Pg FT hdT (orMemo hmT (allMemoC [Tam32])) pu 60).ex (V × HT) Tam33.f Tam33.args ⟨Tam33.H.next,Tam33.H.next,Tam33.H.tr⟩ (pairP [])=some (Tam33.v,Tam33.H'):=by kernel_rfl
theorem Tamok33 (hh:HdOk Pg hd):MemoOk Pg Tam33:=memo_ofP okP tabOk (hdT_ok hh) (orMemo_ok hmT_ok (allMemoC_ok (l:=[Tam32]) ⟨Tamok32 hh,trivial⟩)) [] (own_of Taown45) Tarun33
end Go.Proofs.YtcglbpjpbjaecaaGreat.Ru
namespace Go.Proofs.YtcglbpjpbjaecaaGreat.Ru
open Go Go.Ab Go.RowKit
set_option maxRecDepth 100000
theorem Tarun34:(exTabM Pg FT hdT (orMemo hmT (allMemoC [Tam33])) pu 60).ex (V × HT) Tam34.f Tam34.args ⟨Tam34.H.next,Tam34.H.next,Tam34.H.tr⟩ (pairP [])=some (Tam34.v,Tam34.H'):=by kernel_rfl
theorem Tamok34 (hh:HdOk Pg hd):MemoOk Pg Tam34:=memo_ofP okP tabOk (hdT_ok hh) (orMemo_ok hmT_ok (allMemoC_ok (l:=[Tam33]) ⟨Tamok33 hh,trivial⟩)) [] (own_of Taown45) Tarun34
end Go.Proofs.YtcglbpjpbjaecaaGreat.Ru
namespace Go.Proofs.YtcglbpjpbjaecaaGreat.Ru
open Go Go.Ab Go.RowKit
set_option maxRecDepth 100000
theorem Tarun35:(exTabM Pg FT hdT (orMemo hmT (allMemoC [Tam34])) pu 60).ex (V × HT) Tam35.f Tam35.args ⟨Tam35.H.next,Tam35.H.next,Tam35.H.tr⟩ (pairP [])=some (Tam35.v,Tam35.H'):=by kernel_rfl
theorem Tamok35 (hh:HdOk Pg hd):MemoOk Pg Tam35:=memo_ofP okP tabOk (hdT_ok hh) (orMemo_ok hmT_ok (allMemoC_ok (l:=[Tam34]) ⟨Tamok34 hh,trivial⟩)) [] (own_of Taown45) Tarun35
end Go.Proofs.YtcglbpjpbjaecaaGreat.Ru
namespace Go.Proofs.YtcglbpjpbjaecaaGreat.Ru
open Go Go.Ab Go.RowKit
set_option maxRecDepth 100000
theorem Tarun36:(exTabM Pg FT hdT (orMemo hmT (allMemoC [Tam29,Tam35])) pu 60).ex (V × HT) Tam36.f Tam36.args ⟨Tam36.H.next,Tam36.H.next,Tam36.H.tr⟩ (pairP [(1556,4),(1562,3)])=some (Tam36.v,Tam36.H'):=by kernel_rfl
theorem Tamok36 (hh:HdOk Pg hd):MemoOk Pg Tam36:=memo_ofP okP tabOk (hdT_ok hh) (orMemo_ok hmT_ok (allMemoC_ok (l:=[Tam29,Tam35]) ⟨Tamok29 hh,Tamok35 hh,trivial⟩)) [(1556,4),(1562,3)] (own_of Taown46) Tarun36
end Go.Proofs.YtcglbpjpbjaecaaGreat.Ru
namespace Go.Proofs.YtcglbpjpbjaecaaGreat.Ru
open Go Go.Ab Go.RowKit
set_option maxRecDepth 100000
theorem Tarun37:(exTabM Pg FT hdT (orMemo hmT (allMemoC [])) pu 60).ex (V × HT) Tam37.f Tam37.args ⟨Tam37.H.next,Tam37.H.next,Tam37.H.tr⟩ (pairP [(1568,12)])=some (Tam37.v,Tam37.H'):=by kernel_rfl
theorem Tamok37 (hh:HdOk Pg hd):MemoOk Pg Tam37:=memo_ofP okP tabOk (hdT_ok hh) (orMemo_ok hmT_ok (allMemoC_ok (l:=[]) trivial)) [(1568,12)] (own_of Taown48) Tarun37
end Go.Proofs.YtcglbpjpbjaecaaGreat.Ru
namespace Go.Proofs.YtcglbpjpbjaecaaGreat.Ru
open Go Go.Ab Go.RowKit
set_option maxRecDepth 100000
theorem Tarun38:(exTabM Pg FT hdT (orMemo hmT (allMemoC [Tam4,Tam22,Tam24,Tam36,Tam37])) pu 60).ex (V × HT) Tam38.f Tam38.args ⟨Tam38.H.next,Tam38.H.next,Tam38.H.tr⟩ (pairP [(0,1581)])=some (Tam38.v,Tam38.H'):=by kernel_rfl
theorem Tamok38 (hh:HdOk Pg hd):MemoOk Pg Tam38:=memo_ofP okP tabOk (hdT_ok hh) (orMemo_ok hmT_ok (allMemoC_ok (l:=[Tam4,Tam22,Tam24,Tam36,Tam37]) ⟨Tamok4 hh,Tamok22 hh,Tamok24 hh,Tamok36 hh,Tamok37 hh,trivial⟩)) [(0,1581)] (own_of Taown50) Tarun38
end Go.Proofs.YtcglbpjpbjaecaaGreat.Ru
namespace Go.Proofs.YtcglbpjpbjaecaaGreat.Ru
open Go Go.Ab Go.RowKit
set_option maxRecDepth 100000
theorem Tarun39:(exTabM Pg FT hdT (orMemo hmT (allMemoC [Tam38])) pu 60).ex (V × HT) Tam39.f Tam39.args ⟨Tam39.H.next,Tam39.H.next,Tam39.H.tr⟩ (pairP [(0,1581)])=some (Tam39.v,Tam39.H'):=by kernel_rfl
theorem Tamok39 (hh:HdOk Pg hd):MemoOk Pg Tam39:=memo_ofP okP tabOk (hdT_ok hh) (orMemo_ok hmT_ok (allMemoC_ok (l:=[Tam38]) ⟨Tamok38 hh,trivial⟩)) [(0,1581)] (own_of Taown50) Tarun39
end Go.Proofs.YtcglbpjpbjaecaaGreat.Ru
namespace Go.Proofs.YtcglbpjpbjaecaaGreat.Sh
open Go Go.Ab Go.RowKit
open Go.Proofs.YtcglbpjpbjaecaaGreat.Ru (Pg okP)
set_option maxRecDepth 100000
end Go.Proofs.YtcglbpjpbjaecaaGreat.Sh
namespace Go.Proofs.YtcglbpjpbjaecaaGreat.Sh
open Go Go.Ab Go.RowKit
open Go.Proofs.YtcglbpjpbjaecaaGreat.Ru
set_option maxRecDepth 10000
theorem hdOkT:HdOk Pg hd:=by
 intro f args v hv
 unfold hd at hv
 split at hv
 · rename_i hf
   obtain rfl:=Nat.eq_of_beq_eq_true hf
   split at hv
   · rename_i n s
     obtain ⟨hc,hv⟩:=bif_some hv
     rw [Bool.and_eq_true,Nat.blt_eq,Nat.blt_eq] at hc
     cases hv
     exact ⟨by kernel_rfl,fun h=>moreP n hc.1 s hc.2 h⟩
   · cases hv
 · cases hv
theorem awakeT (h:AH):ACalls Pg 42 [] h (pureE (.bool true) h):=by
 have c:=(Tamok39 hdOkT).call
 have e:(Tam39).H.ah=AH0:=by
   show HT.ah ⟨0,0,Tat50⟩=AH0
   rw [show Tat50=.nil by kernel_rfl]
   exact HT0_ah
 rw [e] at c
 exact pure_lift rfl rfl (c.mono fun e _ q=>q.1) h
end Go.Proofs.YtcglbpjpbjaecaaGreat.Sh
namespace Go.Proofs.YtcglbpjpbjaecaaGreat.Sh
open Go Go.Ab Go.RowKit
open Go.Proofs.YtcglbpjpbjaecaaGreat.Ru (Pg okP)
set_option maxRecDepth 10000
set_option linter.unusedSectionVars false
theorem pageT (l:List UInt8) (h:l.length≤131072):(evT l).page < 65536:=(evT_ok l (by omega)).page
theorem par_fine {s:List UInt8}:∀ e∈(parT evT s).1,e.fine∧e.ok∧e.keep.length≤2000:=by
 intro e he
 by_cases h:(parT evT s).2.2=0
 · unfold parT at h he
   by_cases hn:131072 < s.length
   · rw [if_pos hn] at he;simp at he
   · rw [if_neg hn] at h he
     obtain ⟨h1,_,h3,_⟩:=prs_ok evT _ _ _ _ h
     rw [h1] at he
     simp only [List.nil_append,List.mem_map] at he
     obtain ⟨l,hl,rfl⟩:=he
     have hll:=lns_len s [] l hl
     have hf:=(h3 l hl).1
     refine ⟨hf,evT_ok l (by simp at hll;omega),?_⟩
     unfold Ev.fine at hf
     omega
 · rw [par_no evT h] at he;simp at he
theorem par_len {s:List UInt8}:(parT evT s).1.length≤2000:=by
 by_cases h:(parT evT s).2.2=0
 · unfold parT at h ⊢
   by_cases hn:131072 < s.length
   · rw [if_pos hn];simp
   · rw [if_neg hn] at h ⊢
     obtain ⟨h1,_,h3,h4⟩:=prs_ok evT _ _ _ _ h
     rw [h1]
     have:=h4 (by omega)
     simp;omega
 · rw [par_no evT h];simp
theorem readsLaw (s:List UInt8) (h0:AH):ACalls Pg 7 [.str s] h0 fun e _=>e=.ret (.bool true):=by
 refine C7 _ _ _ ?_
 refine bindV_mk (len_str (by kernel_rfl)) ?_
 refine bindS_mk b_gtr ?_
 refine i_split (fun c=>?_) (fun c=>?_)
 · refine callS (awakeT _) ?_
   rfl
 · refine Meet.of (cast_p (Jz5o_eq _ _ _) ?_)
   refine callE2 (parseP s h0) ?_
   rintro e h1 ⟨y1,rfl,s1,n1,f1⟩
   refine ⟨_,rfl,?_⟩
   refine bindS_mk (show aExtract _ _=some _ from rfl) ?_
   refine bindS_mk (show aExtract _ _=some _ from rfl) ?_
   refine bindS_mk (show aExtract _ _=some _ from rfl) ?_
   refine callE2 (parseRP s h1) ?_
   rintro e h2 ⟨y2,rfl,s2,n2,f2⟩
   refine ⟨_,rfl,?_⟩
   refine bindS_mk (show aExtract _ _=some _ from rfl) ?_
   refine bindS_mk (show aExtract _ _=some _ from rfl) ?_
   refine bindS_mk (show aExtract _ _=some _ from rfl) ?_
   rw [← par_same pageT] at s2 ⊢
   have s1':=s1.keep n2 f2
   refine callS (sameP _ _ (Nat.le_trans par_len (by decide)) (fun e he=>Nat.le_trans (par_fine e he).2.2 (by decide)) s1' s2) ?_
   rw [decide_eq_true (rfl:(parT evT s).1=(parT evT s).1)]
   refine g_tt ?_
   refine bindS_mk b_eql ?_
   rw [beq_self_eq_true]
   refine Meet.of (cast_p (Gz1s_eq _ _ _ _ _ _) ?_)
   refine bindV_mk p_t ?_
   refine g_tt ?_
   refine bindS_mk b_eql ?_
   rw [beq_self_eq_true]
   refine Meet.of (cast_p (Gz1t_eq _ _ _ _) ?_)
   refine bindV_mk p_t ?_
   refine g_tt ?_
   refine callS (awakeT _) ?_
   refine Meet.of (cast_p (Gz1u_eq _ _ _ _) ?_)
   refine bindV_mk p_t ?_
   refine Meet.of (cast_p (Jz5p_eq _ _ _) ?_)
   rfl
end Go.Proofs.YtcglbpjpbjaecaaGreat.Sh
