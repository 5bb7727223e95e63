import Derived.Test.YtcglbpjpbjaecaaGreatJ18
import Derived.Test.YtcglbpjpbjaecaaGreatJ29
import Derived.Test.YtcglbpjpbjaecaaGreatJ14
import Derived.Test.YtcglbpjpbjaecaaGreatJ08
import Derived.Test.YtcglbpjpbjaecaaGreatJ16
import Derived.Test.YtcglbpjpbjaecaaGreatJ17
set_option linter.unusedVariables false
set_option linter.unusedSimpArgs false
namespace Go.Proofs.YtcglbpjpbjaecaaGreat.Ru
open Go Go.Ab Go.RowKit
set_option maxRecDepth 100000
theorem Tarun23:(exTabM Pg FT hdT (orMemo hmT (allMemoC [])) pu 60).ex (V × HT) Tam23.f Tam23.args ⟨Tam23.H.next,Tam23.H.next,Tam23.H.tr⟩ (pairP [(1551,1)])=some (Tam23.v,Tam23.H'):=by kernel_rfl
theorem Tamok23 (hh:HdOk Pg hd):MemoOk Pg Tam23:=memo_ofP okP tabOk (hdT_ok hh) (orMemo_ok hmT_ok (allMemoC_ok (l:=[]) trivial)) [(1551,1)] (own_of Taown39) Tarun23
end Go.Proofs.YtcglbpjpbjaecaaGreat.Ru
namespace Go.Proofs.YtcglbpjpbjaecaaGreat.Ru
open Go Go.Ab Go.RowKit
set_option maxRecDepth 100000
theorem Tarun24:(exTabM Pg FT hdT (orMemo hmT (allMemoC [Tam23])) pu 60).ex (V × HT) Tam24.f Tam24.args ⟨Tam24.H.next,Tam24.H.next,Tam24.H.tr⟩ (pairP [(1548,4),(1553,1)])=some (Tam24.v,Tam24.H'):=by kernel_rfl
theorem Tamok24 (hh:HdOk Pg hd):MemoOk Pg Tam24:=memo_ofP okP tabOk (hdT_ok hh) (orMemo_ok hmT_ok (allMemoC_ok (l:=[Tam23]) ⟨Tamok23 hh,trivial⟩)) [(1548,4),(1553,1)] (own_of Taown41) Tarun24
end Go.Proofs.YtcglbpjpbjaecaaGreat.Ru
namespace Go.Proofs.YtcglbpjpbjaecaaGreat.Ru
open Go Go.Ab Go.RowKit
set_option maxRecDepth 100000
theorem Tarun25:(exTabM Pg FT hdT (orMemo hmT (allMemoC [])) pu 60).ex (V × HT) Tam25.f Tam25.args ⟨Tam25.H.next,Tam25.H.next,Tam25.H.tr⟩ (pairP [])=some (Tam25.v,Tam25.H'):=by kernel_rfl
theorem Tamok25 (hh:HdOk Pg hd):MemoOk Pg Tam25:=memo_ofP okP tabOk (hdT_ok hh) (orMemo_ok hmT_ok (allMemoC_ok (l:=[]) trivial)) [] (own_of Taown43) Tarun25
end Go.Proofs.YtcglbpjpbjaecaaGreat.Ru
namespace Go.Proofs.YtcglbpjpbjaecaaGreat.Ru
open Go Go.Ab Go.RowKit
set_option maxRecDepth 100000
theorem Tarun26:(exTabM Pg FT hdT (orMemo hmT (allMemoC [Tam25])) pu 60).ex (V × HT) Tam26.f Tam26.args ⟨Tam26.H.next,Tam26.H.next,Tam26.H.tr⟩ (pairP [])=some (Tam26.v,Tam26.H'):=by kernel_rfl
theorem Tamok26 (hh:HdOk Pg hd):MemoOk Pg Tam26:=memo_ofP okP tabOk (hdT_ok hh) (orMemo_ok hmT_ok (allMemoC_ok (l:=[Tam25]) ⟨Tamok25 hh,trivial⟩)) [] (own_of Taown43) Tarun26
end Go.Proofs.YtcglbpjpbjaecaaGreat.Ru
namespace Go.Proofs.YtcglbpjpbjaecaaGreat.Ru
open Go Go.Ab Go.RowKit
set_option maxRecDepth 100000
theorem Tarun27:(exTabM Pg FT hdT (orMemo hmT (allMemoC [Tam26])) pu 60).ex (V × HT) Tam27.f Tam27.args ⟨Tam27.H.next,Tam27.H.next,Tam27.H.tr⟩ (pairP [])=some (Tam27.v,Tam27.H'):=by kernel_rfl
theorem Tamok27 (hh:HdOk Pg hd):MemoOk Pg Tam27:=memo_ofP okP tabOk (hdT_ok hh) (orMemo_ok hmT_ok (allMemoC_ok (l:=[Tam26]) ⟨Tamok26 hh,trivial⟩)) [] (own_of Taown43) Tarun27
end Go.Proofs.YtcglbpjpbjaecaaGreat.Ru
namespace Go.Proofs.YtcglbpjpbjaecaaGreat.Ru
open Go Go.Ab Go.RowKit
set_option maxRecDepth 100000
theorem Tarun28:(exTabM Pg FT hdT (orMemo hmT (allMemoC [Tam27])) pu 60).ex (V × HT) Tam28.f Tam28.args ⟨Tam28.H.next,Tam28.H.next,Tam28.H.tr⟩ (pairP [(1557,3),(1562,2)])=some (Tam28.v,Tam28.H'):=by kernel_rfl
theorem Tamok28 (hh:HdOk Pg hd):MemoOk Pg Tam28:=memo_ofP okP tabOk (hdT_ok hh) (orMemo_ok hmT_ok (allMemoC_ok (l:=[Tam27]) ⟨Tamok27 hh,trivial⟩)) [(1557,3),(1562,2)] (own_of Taown43) Tarun28
end Go.Proofs.YtcglbpjpbjaecaaGreat.Ru
namespace Go.Proofs.YtcglbpjpbjaecaaGreat.Ru
open Go Go.Ab Go.RowKit
set_option maxRecDepth 100000
theorem Tarun29:(exTabM Pg FT hdT (orMemo hmT (allMemoC [Tam28])) pu 60).ex (V × HT) Tam29.f Tam29.args ⟨Tam29.H.next,Tam29.H.next,Tam29.H.tr⟩ (pairP [(1557,3),(1562,3)])=some (Tam29.v,Tam29.H'):=by kernel_rfl
theorem Tamok29 (hh:HdOk Pg hd):MemoOk Pg Tam29:=memo_ofP okP tabOk (hdT_ok hh) (orMemo_ok hmT_ok (allMemoC_ok (l:=[Tam28]) ⟨Tamok28 hh,trivial⟩)) [(1557,3),(1562,3)] (own_of Taown43) Tarun29
end Go.Proofs.YtcglbpjpbjaecaaGreat.Ru
namespace Go.Proofs.YtcglbpjpbjaecaaGreat.Ru
open Go Go.Ab Go.RowKit
set_option maxRecDepth 100000
theorem Tarun30:(exTabM Pg FT hdT (orMemo hmT (allMemoC [])) pu 60).ex (V × HT) Tam30.f Tam30.args ⟨Tam30.H.next,Tam30.H.next,Tam30.H.tr⟩ (pairP [])=some (Tam30.v,Tam30.H'):=by kernel_rfl
theorem Tamok30 (hh:HdOk Pg hd):MemoOk Pg Tam30:=memo_ofP okP tabOk (hdT_ok hh) (orMemo_ok hmT_ok (allMemoC_ok (l:=[]) trivial)) [] (own_of Taown45) Tarun30
end Go.Proofs.YtcglbpjpbjaecaaGreat.Ru
namespace Go.Proofs.YtcglbpjpbjaecaaGreat.Ru
open Go Go.Ab Go.RowKit
set_option maxRecDepth 100000
theorem Tarun31:(exTabM Pg FT hdT (orMemo hmT (allMemoC [Tam30])) pu 60).ex (V × HT) Tam31.f Tam31.args ⟨Tam31.H.next,Tam31.H.next,Tam31.H.tr⟩ (pairP [])=some (Tam31.v,Tam31.H'):=by kernel_rfl
theorem Tamok31 (hh:HdOk Pg hd):MemoOk Pg Tam31:=memo_ofP okP tabOk (hdT_ok hh) (orMemo_ok hmT_ok (allMemoC_ok (l:=[Tam30]) ⟨Tamok30 hh,trivial⟩)) [] (own_of Taown45) Tarun31
end Go.Proofs.YtcglbpjpbjaecaaGreat.Ru
namespace Go.Proofs.YtcglbpjpbjaecaaGreat.Ru
open Go Go.Ab Go.RowKit
set_option maxRecDepth 100000
theorem Tarun32:(exTabM Pg FT hdT (orMemo hmT (allMemoC [Tam31])) pu 60).ex (V × HT) Tam32.f Tam32.args ⟨Tam32.H.next,Tam32.H.next,Tam32.H.tr⟩ (pairP [])=some (Tam32.v,Tam32.H'):=by kernel_rfl
theorem Tamok32 (hh:HdOk Pg hd):MemoOk Pg Tam32:=memo_ofP okP tabOk (hdT_ok hh) (orMemo_ok hmT_ok (allMemoC_ok (l:=[Tam31]) ⟨Tamok31 hh,trivial⟩)) [] (own_of Taown45) Tarun32
end Go.Proofs.YtcglbpjpbjaecaaGreat.Ru
namespace Go.Proofs.YtcglbpjpbjaecaaGreat.Ru
open Go Go.Ab Go.RowKit
set_option maxRecDepth 100000
theorem Tarun33:(exTabM Pg FT hdT (orMemo hmT (allMemoC [Tam32])) pu 60).ex (V × HT) Tam33.f Tam33.args ⟨Tam33.H.next,Tam33.H.next,Tam33.H.tr⟩ (pairP [])=some (Tam33.v,Tam33.H'):=by kernel_rfl
theorem Tamok33 (hh:HdOk Pg hd):MemoOk Pg Tam33:=memo_ofP okP tabOk (hdT_ok hh) (orMemo_ok hmT_ok (allMemoC_ok (l:=[Tam32]) ⟨Tamok32 hh,trivial⟩)) [] (own_of Taown45) Tarun33
end Go.Proofs.YtcglbpjpbjaecaaGreat.Ru
namespace Go.Proofs.YtcglbpjpbjaecaaGreat.Ru
open Go Go.Ab Go.RowKit
set_option maxRecDepth 100000
theorem Tarun34:(exTabM Pg FT hdT (orMemo hmT (allMemoC [Tam33])) pu 60).ex (V × HT) Tam34.f Tam34.args ⟨Tam34.H.next,Tam34.H.next,Tam34.H.tr⟩ (pairP [])=some (Tam34.v,Tam34.H'):=by kernel_rfl
theorem Tamok34 (hh:HdOk Pg hd):MemoOk Pg Tam34:=memo_ofP okP tabOk (hdT_ok hh) (orMemo_ok hmT_ok (allMemoC_ok (l:=[Tam33]) ⟨Tamok33 hh,trivial⟩)) [] (own_of Taown45) Tarun34
end Go.Proofs.YtcglbpjpbjaecaaGreat.Ru
namespace Go.Proofs.YtcglbpjpbjaecaaGreat.Ru
open Go Go.Ab Go.RowKit
set_option maxRecDepth 100000
theorem Tarun35:(exTabM Pg FT hdT (orMemo hmT (allMemoC [Tam34])) pu 60).ex (V × HT) Tam35.f Tam35.args ⟨Tam35.H.next,Tam35.H.next,Tam35.H.tr⟩ (pairP [])=some (Tam35.v,Tam35.H'):=by kernel_rfl
theorem Tamok35 (hh:HdOk Pg hd):MemoOk Pg Tam35:=memo_ofP okP tabOk (hdT_ok hh) (orMemo_ok hmT_ok (allMemoC_ok (l:=[Tam34]) ⟨Tamok34 hh,trivial⟩)) [] (own_of Taown45) Tarun35
end Go.Proofs.YtcglbpjpbjaecaaGreat.Ru
namespace Go.Proofs.YtcglbpjpbjaecaaGreat.Ru
open Go Go.Ab Go.RowKit
set_option maxRecDepth 100000
theorem Tarun36:(exTabM Pg FT hdT (orMemo hmT (allMemoC [Tam29,Tam35])) pu 60).ex (V × HT) Tam36.f Tam36.args ⟨Tam36.H.next,Tam36.H.next,Tam36.H.tr⟩ (pairP [(1556,4),(1562,3)])=some (Tam36.v,Tam36.H'):=by kernel_rfl
theorem Tamok36 (hh:HdOk Pg hd):MemoOk Pg Tam36:=memo_ofP okP tabOk (hdT_ok hh) (orMemo_ok hmT_ok (allMemoC_ok (l:=[Tam29,Tam35]) ⟨Tamok29 hh,Tamok35 hh,trivial⟩)) [(1556,4),(1562,3)] (own_of Taown46) Tarun36
end Go.Proofs.YtcglbpjpbjaecaaGreat.Ru
namespace Go.Proofs.YtcglbpjpbjaecaaGreat.Ru
open Go Go.Ab Go.RowKit
set_option maxRecDepth 100000
theorem Tarun37:(exTabM Pg FT hdT (orMemo hmT (allMemoC [])) pu 60).ex (V × HT) Tam37.f Tam37.args ⟨Tam37.H.next,Tam37.H.next,Tam37.H.tr⟩ (pairP [(1568,12)])=some (Tam37.v,Tam37.H'):=by kernel_rfl
theorem Tamok37 (hh:HdOk Pg hd):MemoOk Pg Tam37:=memo_ofP okP tabOk (hdT_ok hh) (orMemo_ok hmT_ok (allMemoC_ok (l:=[]) trivial)) [(1568,12)] (own_of Taown48) Tarun37
end Go.Proofs.YtcglbpjpbjaecaaGreat.Ru
namespace Go.Proofs.YtcglbpjpbjaecaaGreat.Ru
open Go Go.Ab Go.RowKit
set_option maxRecDepth 100000
theorem Tarun38:(exTabM Pg FT hdT (orMemo hmT (allMemoC [Tam4,Tam22,Tam24,Tam36,Tam37])) pu 60).ex (V × HT) Tam38.f Tam38.args ⟨Tam38.H.next,Tam38.H.next,Tam38.H.tr⟩ (pairP [(0,1581)])=some (Tam38.v,Tam38.H'):=by kernel_rfl
theorem Tamok38 (hh:HdOk Pg hd):MemoOk Pg Tam38:=memo_ofP okP tabOk (hdT_ok hh) (orMemo_ok hmT_ok (allMemoC_ok (l:=[Tam4,Tam22,Tam24,Tam36,Tam37]) ⟨Tamok4 hh,Tamok22 hh,Tamok24 hh,Tamok36 hh,Tamok37 hh,trivial⟩)) [(0,1581)] (own_of Taown50) Tarun38
end Go.Proofs.YtcglbpjpbjaecaaGreat.Ru
namespace Go.Proofs.YtcglbpjpbjaecaaGreat.Ru
open Go Go.Ab Go.RowKit
set_option maxRecDepth 100000
theorem Tarun39:(exTabM Pg FT hdT (orMemo hmT (allMemoC [Tam38])) pu 60).ex (V × HT) Tam39.f Tam39.args ⟨Tam39.H.next,Tam39.H.next,Tam39.H.tr⟩ (pairP [(0,1581)])=some (Tam39.v,Tam39.H'):=by kernel_rfl
theorem Tamok39 (hh:HdOk Pg hd):MemoOk Pg Tam39:=memo_ofP okP tabOk (hdT_ok hh) (orMemo_ok hmT_ok (allMemoC_ok (l:=[Tam38]) ⟨Tamok38 hh,trivial⟩)) [(0,1581)] (own_of Taown50) Tarun39
end Go.Proofs.YtcglbpjpbjaecaaGreat.Ru
namespace Go.Proofs.YtcglbpjpbjaecaaGreat.Sh
open Go Go.Ab Go.RowKit
open Go.Proofs.YtcglbpjpbjaecaaGreat.Ru (Pg okP)
set_option maxRecDepth 100000
end Go.Proofs.YtcglbpjpbjaecaaGreat.Sh
namespace Go.Proofs.YtcglbpjpbjaecaaGreat.Sh
open Go Go.Ab Go.RowKit
open Go.Proofs.YtcglbpjpbjaecaaGreat.Ru
set_option maxRecDepth 10000
theorem hdOkT:HdOk Pg hd:=by
 intro f args v hv
 unfold hd at hv
 split at hv
 · rename_i hf
   obtain rfl:=Nat.eq_of_beq_eq_true hf
   split at hv
   · rename_i n s
     obtain ⟨hc,hv⟩:=bif_some hv
     rw [Bool.and_eq_true,Nat.blt_eq,Nat.blt_eq] at hc
     cases hv
     exact ⟨by kernel_rfl,fun h=>moreP n hc.1 s hc.2 h⟩
   · cases hv
 · cases hv
theorem awakeT (h:AH):ACalls Pg 42 [] h (pureE (.bool true) h):=by
 have c:=(Tamok39 hdOkT).call
 have e:(Tam39).H.ah=AH0:=by
   show HT.ah ⟨0,0,Tat50⟩=AH0
   rw [show Tat50=.nil by kernel_rfl]
   exact HT0_ah
 rw [e] at c
 exact pure_lift rfl rfl (c.mono fun e _ q=>q.1) h
end Go.Proofs.YtcglbpjpbjaecaaGreat.Sh
namespace Go.Proofs.YtcglbpjpbjaecaaGreat.Sh
open Go Go.Ab Go.RowKit
open Go.Proofs.YtcglbpjpbjaecaaGreat.Ru (Pg okP)
set_option maxRecDepth 10000
set_option linter.unusedSectionVars false
theorem par_fine {s:List UInt8}:∀ e∈(parT evT s).1,e.fine∧e.ok∧e.keep.length≤2000:=by
 intro e he
 by_cases h:(parT evT s).2.2=0
 · unfold parT at h he
   by_cases hn:131072 < s.length
   · rw [if_pos hn] at he;simp at he
   · rw [if_neg hn] at h he
     obtain ⟨h1,_,h3,_⟩:=prs_ok evT _ _ _ _ h
     rw [h1] at he
     simp only [List.nil_append,List.mem_map] at he
     obtain ⟨l,hl,rfl⟩:=he
     have hll:=lns_len s [] l hl
     have hf:=(h3 l hl).1
     refine ⟨hf,evT_ok l (by simp at hll;omega),?_⟩
     unfold Ev.fine at hf
     omega
 · rw [par_no evT h] at he;simp at he
theorem par_len {s:List UInt8}:(parT evT s).1.length≤2000:=by
 by_cases h:(parT evT s).2.2=0
 · unfold parT at h ⊢
   by_cases hn:131072 < s.length
   · rw [if_pos hn];simp
   · rw [if_neg hn] at h ⊢
     obtain ⟨h1,_,h3,h4⟩:=prs_ok evT _ _ _ _ h
     rw [h1]
     have:=h4 (by omega)
     simp;omega
 · rw [par_no evT h];simp
end Go.Proofs.YtcglbpjpbjaecaaGreat.Sh
namespace Go.Proofs.YtcglbpjpbjaecaaGreat.Sh
open Go Go.Ab Go.RowKit
open Go.Proofs.YtcglbpjpbjaecaaGreat.Ru (Pg okP)
set_option maxRecDepth 10000
end Go.Proofs.YtcglbpjpbjaecaaGreat.Sh
namespace Go.Proofs.YtcglbpjpbjaecaaGreat.Sh
open Go Go.Ab Go.RowKit
open Go.Proofs.YtcglbpjpbjaecaaGreat.Ru (Pg okP)
set_option maxRecDepth 10000
set_option linter.unusedSectionVars false
theorem EvsAt.app {h:AH} {xs ys:List V} {l m:List Ev} (a:EvsAt h xs l) (b:EvsAt h ys m):EvsAt h (xs++ys) (l++m):=by
 refine ⟨by simp [a.1,b.1],fun i e he=>?_⟩
 rcases Nat.lt_or_ge i l.length with hi | hi
 · rw [List.getElem?_append_left hi] at he
   obtain ⟨k,q1,q2⟩:=a.2 i e he
   exact ⟨k,by rw [List.getElem?_append_left (by rw [a.1];exact hi)];exact q1,q2⟩
 · rw [List.getElem?_append_right hi] at he
   obtain ⟨k,q1,q2⟩:=b.2 _ e he
   exact ⟨k,by rw [List.getElem?_append_right (by rw [a.1];exact hi),a.1];exact q1,q2⟩
theorem ap84n {h:AH} {x y:V} (hx:(∃ n,x=.slc none n)∨∃ a n,x=.slc (some a) n) (hy:aElems Pg h 73 y=some []):aBuiltin Pg h .append [84,84] [x,y]=some (x,h):=by
 obtain ⟨h1,h2,h3,h4⟩:=apOk_spec ap84
 rcases hx with ⟨n,rfl⟩ | ⟨a,n,rfl⟩
 · simp only [aBuiltin,h1]
   rw [if_pos h2]
   unfold aAppend
   rw [hy]
 · simp only [aBuiltin,h1]
   rw [if_pos h2]
   unfold aAppend
   rw [hy]
theorem scr_row {h:AH} {y:V} {l:List Ev} (s:ScrB h y l):∃ xs,RowB 73 h y xs∧EvsAt h xs l∧aElems Pg h 73 y=some xs:=by
 rcases s with ⟨rfl,rfl⟩ | ⟨n,xs,h1,rfl,h3,h4⟩
 · exact ⟨[],.inl ⟨rfl,rfl⟩,⟨rfl,fun i e h=>by simp at h⟩,rfl⟩
 · exact ⟨xs,.inr ⟨n,h1,by rw [h4.1],h3⟩,h4,by rw [← h4.1];exact elems_row h3⟩
theorem scr_app {h:AH} {b0:Nat} {y m:V} {l1 l2:List Ev} (s1:ScrB h y l1) (yy:Young 73 b0 y) (s2:ScrB h m l2) (hl:l1.length + l2.length≤2100) :
   ∃ v h',aBuiltin Pg h .append [84,84] [y,m]=some (v,h')∧ScrB h' v (l1++l2)∧h.next≤h'.next∧(∀ k,k < b0→k < h.next→h'.m k=h.m k):=by
 obtain ⟨xs,r1,e1,_⟩:=scr_row s1
 obtain ⟨ys,r2,e2,el⟩:=scr_row s2
 by_cases hz:ys=[]
 · subst hz
   have:l2=[]:=List.length_eq_zero_iff.1 (by rw [← e2.1];rfl)
   subst this
   refine ⟨y,h,ap84n ?_ el,by rw [List.append_nil];exact s1,Nat.le_refl _,fun _ _ _=>rfl⟩
   rcases r1 with ⟨rfl,_⟩ | ⟨n,_,rfl,_⟩
   · exact .inl ⟨_,rfl⟩
   · exact .inr ⟨_,_,rfl⟩
 · obtain ⟨v,h',q1,q2,q3,q4,q5⟩:=r1.app ap84 el hz (by rw [e1.1,e2.1];have:=by73;exact Nat.le_trans (Nat.mul_le_mul hl this) (by decide))
   have t2:∀ n zs,n < h.next→h.m n=some (.cells true (.row 4) zs)→h'.m n=h.m n:=fun n zs g1 g2=>q4 n g1 (row_ne' r1 (by decide) g2)
   exact ⟨v,h',q1,scrB_row q2 ((e1.keepT (by omega) t2).app (e2.keepT (by omega) t2)),by omega,fun k a b=>q4 k b (yy k a)⟩
theorem keptF_id {l:List Ev} (hl:l.length≤2100) (hk:∀ e∈l,e.keep.length≤2100):keptF l=l:=by
 rw [keptF,List.take_of_length_le hl]
 have:∀ m:List Ev,(∀ e∈m,e.keep.length≤2100)→m.map Ev.cut=m:=by
   intro m
   induction m with
   | nil=>intro _;rfl
   | cons e m ih =>
     intro h
     rw [List.map_cons,ih fun x hx=>h x (List.mem_cons_of_mem _ hx)]
     congr 1
     have:=h e List.mem_cons_self
     rw [Ev.cut,List.take_of_length_le this]
 exact this l hk
abbrev QT:AEnd→AH→Prop:=fun e _=>e=.ret (.bool true)
section
variable {a b:List UInt8} {h:AH} {x5 x8 x11:V}
theorem joins3 (ha:a≠[]→a.getLast?=some 10) (hl:a.length + b.length≤131072) (e1:(parT evT a).2.2=0) (e2:(parT evT b).2.2=0) (h900:(parT evT a).1.length + (parT evT b).1.length≤900)
   (s1:ScrB h x5 (parT evT a).1) (s2:ScrB h x8 (parT evT b).1) (s3:ScrB h x11 (parT evT (a++b)).1):Jz3w QT x5 x8 x11 (.int .i64 (parT evT (a++b)).2.2) h:=by
 obtain ⟨k1,k2,k3⟩:=par_join ha hl e1 h900 (fun q=>absurd e2 q)
 rw [Jz3w_eq]
 refine bindS_mk b_eql ?_
 rw [k1,e2]
 refine g_tt ?_
 refine callE2 (keptP _ s1.any) ?_
 rintro e h1 ⟨y,rfl,q1,q2,q3,q4⟩
 refine ⟨_,rfl,?_⟩
 rw [keptF_id (by omega) (fun e he=>Nat.le_trans (par_fine e he).2.2 (by decide))] at q1
 obtain ⟨v,h2,g1,g2,g3,g4⟩:=scr_app q1 q4 (s2.keep q2 q3) (by omega)
 refine bindV_mk g1 ?_
 have s3':ScrB h2 x11 (parT evT (a++b)).1:=s3.keep (by omega) fun n q=>(g4 n q (by omega)).trans (q3 n q)
 refine callS (sameP _ _ (Nat.le_trans par_len (by decide)) (fun e he=>Nat.le_trans (par_fine e he).2.2 (by decide)) s3' g2) ?_
 rw [decide_eq_true (k3 e2)]
 refine Meet.of (cast_p (Gz1j_eq _ _ _ _) ?_)
 refine bindV_mk p_t ?_
 refine g_tt ?_
 refine callS (awakeT _) ?_
 refine Meet.of (cast_p (Gz1k_eq _ _ _ _) ?_)
 refine bindV_mk p_t ?_
 refine Meet.of (cast_p (Jz3x_eq _ _ _) ?_)
 rfl
theorem joins2 (ha:a≠[]→a.getLast?=some 10) (hl:a.length + b.length≤131072) (e1:(parT evT a).2.2=0)
   (s1:ScrB h x5 (parT evT a).1) (s2:ScrB h x8 (parT evT b).1) (s3:ScrB h x11 (parT evT (a++b)).1) :
   Jz3s QT x5 x8 (.int .i64 (parT evT b).2.1) (.int .i64 (parT evT b).2.2) x11 (.int .i64 (parT evT (a++b)).2.1) (.int .i64 (parT evT (a++b)).2.2) h:=by
 have la:=par_len (s:=a)
 have lb:=par_len (s:=b)
 have aw:∀ c,c=true→Jz3t QT x5 x8 (.int .i64 (parT evT b).2.1) (.int .i64 (parT evT b).2.2) x11 (.int .i64 (parT evT (a++b)).2.1) (.int .i64 (parT evT (a++b)).2.2) (.bool c) h:=by
   intro c hc
   subst hc
   rw [Jz3t_eq]
   refine i_t ?_
   refine callS (awakeT _) ?_
   rfl
 have go:(parT evT a).1.length + (parT evT b).1.length≤900→((parT evT b).2.2≠0→(parT evT b).2.1≤900)→∀ c,c=false→Jz3t QT x5 x8 (.int .i64 (parT evT b).2.1) (.int .i64 (parT evT b).2.2) x11 (.int .i64 (parT evT (a++b)).2.1) (.int .i64 (parT evT (a++b)).2.2) (.bool c) h:=by
   intro h900 hk c hc
   subst hc
   obtain ⟨k1,k2,k3⟩:=par_join ha hl e1 h900 hk
   rw [Jz3t_eq]
   refine i_f ?_
   refine Meet.of (cast_p (Jz3u_eq _ _ _ _ _ _ _ _ _) ?_)
   refine bindS_mk b_neq ?_
   by_cases e2:(parT evT b).2.2=0
   · rw [e2]
     refine i_f ?_
     exact Meet.of (joins3 ha hl e1 e2 h900 s1 s2 s3)
   · rw [show ((((parT evT b).2.2:Nat):Int) != 0)=true from bne_iff_ne.2 (by omega)]
     refine i_t ?_
     refine bindS_mk b_eql ?_
     rw [k1,beq_self_eq_true]
     refine g_tt ?_
     obtain ⟨a1,rfl⟩:=s1.shape
     refine bindV_mk (len_slc (by kernel_rfl)) ?_
     have hk2:=hk e2
     refine bindS_mk (w_add (wrap_i64 (by omega) (by omega))) ?_
     refine bindS_mk b_eql ?_
     have k2:=k2 e2
     rw [show ((((parT evT (a++b)).2.1:Nat):Int) == ((parT evT a).1.length:Int) + ((parT evT b).2.1:Int))=true from beq_iff_eq.2 (by omega)]
     refine Meet.of (cast_p (Gz1g_eq _ _ _ _ _) ?_)
     refine bindV_mk p_t ?_
     refine g_tt ?_
     have hn:=par_no (s:=a++b) evT (by rw [k1];exact e2)
     obtain ⟨a3,rfl⟩:=s3.shape
     refine bindV_mk (len_slc (by kernel_rfl)) ?_
     refine bindS_mk b_eql ?_
     rw [hn]
     refine Meet.of (cast_p (Gz1h_eq _ _ _ _) ?_)
     refine bindV_mk p_t ?_
     refine g_tt ?_
     refine callS (awakeT _) ?_
     refine Meet.of (cast_p (Gz1i_eq _ _ _ _) ?_)
     refine bindV_mk p_t ?_
     refine Meet.of (cast_p (Jz3v_eq _ _ _) ?_)
     rfl
 rw [Jz3s_eq]
 obtain ⟨a1,q1⟩:=s1.shape
 obtain ⟨a2,q2⟩:=s2.shape
 refine bindV_mk (show aBuiltin Pg h .len [84] [x5]=some (.int .i64 (parT evT a).1.length,h) by rw [q1];exact len_slc (by kernel_rfl)) ?_
 refine bindV_mk (show aBuiltin Pg h .len [84] [x8]=some (.int .i64 (parT evT b).1.length,h) by rw [q2];exact len_slc (by kernel_rfl)) ?_
 refine bindS_mk (w_add (wrap_i64 (by omega) (by omega))) ?_
 refine bindS_mk b_gtr ?_
 refine g_split_f (fun c=>?_) (fun c=>?_)
 · rw [c]
   replace c:=of_decide_eq_false c
   refine bindS_mk b_neq ?_
   refine Meet.of (cast_p (Gz1d_eq _ _ _ _ _ _ _ _ _ _ _) ?_)
   refine g_split_t (fun d=>?_) (fun d=>?_)
   · rw [d]
     replace d:=ne_of_bne d
     refine bindS_mk b_gtr ?_
     refine Meet.of (cast_p (Gz1e_eq _ _ _ _ _ _ _ _ _ _ _ _) ?_)
     refine g_ff ?_
     refine bindV_mk p_t ?_
     refine Meet.of (cast_p (Gz1f_eq _ _ _ _ _ _ _ _ _ _ _) ?_)
     refine bindV_mk p_f ?_
     by_cases r:900 < (parT evT b).2.1
     · exact Meet.of (aw _ (decide_eq_true (by omega)))
     · exact Meet.of (go (by omega) (fun _=>by omega) _ (decide_eq_false (by omega)))
   · rw [d]
     replace d:=eq_of_bne_false d
     refine Meet.of (cast_p (Gz1e_eq _ _ _ _ _ _ _ _ _ _ _ _) ?_)
     refine g_ff ?_
     refine bindV_mk p_f ?_
     refine Meet.of (cast_p (Gz1f_eq _ _ _ _ _ _ _ _ _ _ _) ?_)
     refine bindV_mk p_f ?_
     exact Meet.of (go (by omega) (fun q=>absurd (by omega) q) _ rfl)
 · rw [c]
   refine Meet.of (cast_p (Gz1d_eq _ _ _ _ _ _ _ _ _ _ _) ?_)
   refine g_hole ?_
   refine Meet.of (cast_p (Gz1e_eq _ _ _ _ _ _ _ _ _ _ _ _) ?_)
   refine g_tf ?_
   refine Meet.of (cast_p (Gz1f_eq _ _ _ _ _ _ _ _ _ _ _) ?_)
   refine bindV_mk p_t ?_
   exact Meet.of (aw _ rfl)
end
theorem joins1 {a b:List UInt8} (ha:a≠[]→a.getLast?=some 10) (h1a:a.length≤32768) (h1b:b.length≤32768) (h:AH):Jz3q QT (.str a) (.str b) h:=by
 rw [Jz3q_eq]
 refine callE2 (parseP a h) ?_
 rintro e h1 ⟨y1,rfl,s1,n1,f1⟩
 refine ⟨_,rfl,?_⟩
 refine bindS_mk (show aExtract _ _=some _ from rfl) ?_
 refine bindS_mk (show aExtract _ _=some _ from rfl) ?_
 refine bindS_mk (show aExtract _ _=some _ from rfl) ?_
 refine callE2 (parseP b h1) ?_
 rintro e h2 ⟨y2,rfl,s2,n2,f2⟩
 refine ⟨_,rfl,?_⟩
 refine bindS_mk (show aExtract _ _=some _ from rfl) ?_
 refine bindS_mk (show aExtract _ _=some _ from rfl) ?_
 refine bindS_mk (show aExtract _ _=some _ from rfl) ?_
 refine bindS_mk (t_add (by omega)) ?_
 refine callE2 (parseP (a++b) h2) ?_
 rintro e h3 ⟨y3,rfl,s3,n3,f3⟩
 refine ⟨_,rfl,?_⟩
 refine bindS_mk (show aExtract _ _=some _ from rfl) ?_
 refine bindS_mk (show aExtract _ _=some _ from rfl) ?_
 refine bindS_mk (show aExtract _ _=some _ from rfl) ?_
 refine bindS_mk b_neq ?_
 have s2':=s2.keep n3 f3
 have s1':=(s1.keep n2 f2).keep n3 f3
 by_cases e1:(parT evT a).2.2=0
 · rw [show ((((parT evT a).2.2:Nat):Int) != 0)=false by rw [e1];rfl]
   refine i_f ?_
   exact Meet.of (joins2 ha (by omega) e1 s1' s2' s3)
 · rw [show ((((parT evT a).2.2:Nat):Int) != 0)=true from bne_iff_ne.2 (by omega)]
   have hj:=par_join_no (b:=b) ha (by omega) e1
   have hn:=par_no (s:=a++b) evT (by rw [hj];exact e1)
   refine i_t ?_
   refine bindS_mk b_eql ?_
   rw [show ((((parT evT (a++b)).2.2:Nat):Int) == (((parT evT a).2.2:Nat):Int))=true from beq_iff_eq.2 (by rw [hj])]
   refine g_tt ?_
   refine bindS_mk b_eql ?_
   rw [show ((((parT evT (a++b)).2.1:Nat):Int) == (((parT evT a).2.1:Nat):Int))=true from beq_iff_eq.2 (by rw [hj])]
   refine Meet.of (cast_p (Gz1a_eq _ _ _ _ _) ?_)
   refine bindV_mk p_t ?_
   refine g_tt ?_
   obtain ⟨a3,rfl⟩:=s3.shape
   refine bindV_mk (len_slc (by kernel_rfl)) ?_
   refine bindS_mk b_eql ?_
   rw [hn]
   refine Meet.of (cast_p (Gz1b_eq _ _ _ _) ?_)
   refine bindV_mk p_t ?_
   refine g_tt ?_
   refine callS (awakeT _) ?_
   refine Meet.of (cast_p (Gz1c_eq _ _ _ _) ?_)
   refine bindV_mk p_t ?_
   refine Meet.of (cast_p (Jz3r_eq _ _ _) ?_)
   rfl
theorem joinsLaw (a b:List UInt8) (h0:AH):ACalls Pg 8 [.str a,.str b] h0 fun e _=>e=.ret (.bool true):=by
 have aw:∀ c h,c=true→Jz3p QT (.str a) (.str b) (.bool c) h:=by
   intro c h hc
   subst hc
   rw [Jz3p_eq]
   refine i_t ?_
   refine callS (awakeT _) ?_
   rfl
 have go:(a≠[]→a.getLast?=some 10)→a.length≤32768→b.length≤32768→∀ c h,c=false→Jz3p QT (.str a) (.str b) (.bool c) h:=by
   intro ha h1 h2 c h hc
   subst hc
   rw [Jz3p_eq]
   refine i_f ?_
   exact Meet.of (joins1 ha h1 h2 h)
 have long:∀ c,c=true→Gz17 QT (.str a) (.str b) (.bool c) hole h0:=by
   intro c hc
   subst hc
   rw [Gz17_eq]
   refine g_hole ?_
   refine Meet.of (cast_p (Gz18_eq _ _ _ _ _ _ _) ?_)
   refine g_tf ?_
   refine Meet.of (cast_p (Gz19_eq _ _ _ _ _ _) ?_)
   refine bindV_mk p_t ?_
   exact Meet.of (aw _ _ rfl)
 refine C8 _ _ _ _ ?_
 refine bindV_mk (len_str (by kernel_rfl)) ?_
 refine bindS_mk b_gtr ?_
 refine g_split_f (fun c=>?_) (fun c=>?_)
 · rw [c]
   replace c:=of_decide_eq_false c
   refine bindV_mk (len_str (by kernel_rfl)) ?_
   refine bindS_mk b_gtr ?_
   refine Meet.of (cast_p (Gz16_eq _ _ _ _ _ _) ?_)
   refine bindV_mk p_f ?_
   refine g_split_f (fun d=>?_) (fun d=>?_)
   · rw [d]
     replace d:=of_decide_eq_false d
     refine bindS_mk t_neq ?_
     refine Meet.of (cast_p (Gz17_eq _ _ _ _ _ _) ?_)
     by_cases hz:a=[]
     · rw [show (!(a == ([]:List UInt8)))=false by rw [hz];rfl]
       refine g_ft ?_
       refine Meet.of (cast_p (Gz18_eq _ _ _ _ _ _ _) ?_)
       refine g_ff ?_
       refine bindV_mk p_f ?_
       refine Meet.of (cast_p (Gz19_eq _ _ _ _ _ _) ?_)
       refine bindV_mk p_f ?_
       exact Meet.of (go (fun q=>absurd hz q) (by omega) (by omega) _ _ rfl)
     · rw [show (!(a == ([]:List UInt8)))=true by rw [beq_eq_false_iff_ne.2 hz];rfl]
       have hp:0 < a.length:=List.length_pos_iff.2 hz
       refine g_tt ?_
       refine bindV_mk (len_str (by kernel_rfl)) ?_
       refine bindS_mk (w_sub (wrap_i64 (by omega) (by omega))) ?_
       obtain ⟨x,hx⟩:∃ x,a[a.length - 1]?=some x:=⟨a[a.length - 1]'(by omega),List.getElem?_eq_getElem (by omega)⟩
       have hlast:a.getLast?=some x:=by rw [List.getLast?_eq_getElem?];exact hx
       refine bindS_mk (ixS (b:=x) (by kernel_rfl) (by omega) (by rw [show ((a.length:Int) - 1).toNat=a.length - 1 by omega];exact hx)) ?_
       refine bindS_mk b_neq ?_
       refine Meet.of (cast_p (Gz18_eq _ _ _ _ _ _ _) ?_)
       refine g_ff ?_
       refine bindV_mk p_t ?_
       refine Meet.of (cast_p (Gz19_eq _ _ _ _ _ _) ?_)
       refine bindV_mk p_f ?_
       by_cases h10:x=10
       · exact Meet.of (go (fun _=>by rw [hlast,h10]) (by omega) (by omega) _ _ (by rw [h10];rfl))
       · exact Meet.of (aw _ _ (bne_iff_ne.2 fun q=>h10 (UInt8.toNat_inj.1 (by show x.toNat=10;omega))))
   · rw [d]
     exact Meet.of (long _ rfl)
 · rw [c]
   refine Meet.of (cast_p (Gz16_eq _ _ _ _ _ _) ?_)
   refine bindV_mk p_t ?_
   refine g_tf ?_
   exact Meet.of (long _ rfl)
end Go.Proofs.YtcglbpjpbjaecaaGreat.Sh
