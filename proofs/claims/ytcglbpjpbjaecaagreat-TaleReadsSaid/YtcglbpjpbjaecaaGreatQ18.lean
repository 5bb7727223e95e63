import Derived.Test.YtcglbpjpbjaecaaGreatQ17
import Derived.Test.YtcglbpjpbjaecaaGreatQ06
import Derived.Test.YtcglbpjpbjaecaaGreatQ14
import Derived.Test.YtcglbpjpbjaecaaGreatQ13
import Derived.RangeFuncLeaves
import Derived.RangeFuncRecord
import Derived.Shelf.GgSortFunc.Tiny
import Derived.Test.YtcglbpjpbjaecaaGreatQ07
import Derived.Test.YtcglbpjpbjaecaaGreatQ08
set_option linter.unusedVariables false
set_option linter.unusedSimpArgs false
namespace Go.Proofs.YtcglbpjpbjaecaaGreat.Sh
open Go Go.Ab Go.RowKit
open Go.Proofs.YtcglbpjpbjaecaaGreat.Ru (Pg okP)
set_option maxRecDepth 10000
set_option linter.unusedSectionVars false
theorem ap337:apOk Pg 337 337 9=true:=by kernel_rfl
theorem by9:Pg.bytesOf 9≤1000:=by decide +kernel
theorem zz9:zeroV Pg 9=some (.str []):=by kernel_rfl
def WdsB (h0 h:AH) (y:V) (l:List (List UInt8)):Prop:=∃ n,h0.next≤n∧n < h.next∧y=.slc (some (⟨n,.row 9,[]⟩,0)) l.length∧h.m n=some (.cells true (.row 9) (.agg (l.map .str)))
theorem WdsB.keep {h0 h h':AH} {y:V} {l:List (List UInt8)} (b:WdsB h0 h y l) (hn:h.next≤h'.next) (hk:∀ n,n < h.next→h'.m n=h.m n):WdsB h0 h' y l:=by
 obtain ⟨n,a,b,c,d⟩:=b
 exact ⟨n,a,by omega,c,(hk n b).trans d⟩
def WordsEnd (s:List UInt8) (h0:AH):AEnd→AH→Prop:=fun ed h'=>∃ y,ed=.ret y∧WdsB h0 h' y (wdsT s)∧h0.next≤h'.next∧∀ n,n < h0.next→h'.m n=h0.m n
structure WM (h0 h:AH) (y:V) (l:List (List UInt8)):Prop where
 row:RowB 9 h y (l.map .str)
 y:Young 9 h0.next y
 nx:h0.next≤h.next
 fr:∀ n,n < h0.next→h.m n=h0.m n
theorem WM.app {h0 h h1:AH} {y:V} {l:List (List UInt8)} {w:List UInt8} (p:WM h0 h y l) (u:New h h1 (.cells true (.row 9) (.agg [.str w]))) (hl:l.length≤200000) :
   ∃ y' h2,aBuiltin Pg h1 .append [337,337] [y,.slc (some (⟨h.next,.row 9,[]⟩,0)) 1]=some (y',h2)∧WM h0 h2 y' (l++[w]):=by
 have n1:=u.next
 have nx:=p.nx
 have r1:RowB 9 h1 y (l.map .str):=by
   rcases p.row with ⟨rfl,q⟩ | ⟨n,q1,rfl,q3⟩
   · exact .inl ⟨rfl,q⟩
   · exact .inr ⟨n,by omega,rfl,(u.other n (by omega)).trans q3⟩
 obtain ⟨y',h2,e2,r2,n2,f2,y2⟩:=r1.app ap337 (elems_row (by exact u.at_)) (by simp) (by have:=by9;exact Nat.le_trans (Nat.mul_le_mul (show (l.map V.str).length + [V.str w].length≤200001 by simp;omega) this) (by decide))
 refine ⟨y',h2,e2,by rw [List.map_append];exact r2,fun n q len=>y2 n (by omega) len,by omega,fun n q=>(f2 n (by omega) (p.y n q)).trans ((u.other n (by omega)).trans (p.fr n q))⟩
section
variable {h0:AH} {s:List UInt8}
theorem end195 {y:V} {h:AH} {l:List (List UInt8)} {w:List UInt8} (hl:l.length≤200000) (p:WM h0 h y l) (hr:wdsT s=l++[w]):Jz4e (WordsEnd s h0) y (.str w) h:=by
 rw [Jz4e_eq]
 refine bindE (bs1_at (e:=9) (by kernel_rfl) zz9 (show hasShape Pg (.str w) 9=true by kernel_rfl)) fun h1 u1=>?_
 obtain ⟨y',h2,e2,p2⟩:=p.app u1 hl
 refine bindV_mk e2 ?_
 refine ⟨y',rfl,?_,p2.nx,p2.fr⟩
 rw [hr]
 rcases p2.row with ⟨q1,q2⟩ | ⟨n,q1,q2,q3⟩
 · simp at q2
 · refine ⟨n,?_,q1,by simpa using q2,q3⟩
   rcases Nat.lt_or_ge n h0.next with q | q
   · exact absurd q2 (p2.y n q _)
   · exact q
theorem loop195 (hs:s.length≤200000):∀ (j i m:Nat) (y:V) (w:List UInt8) (l:List (List UInt8)) (h:AH),i + j=s.length→j < m→w.length≤i→l.length≤i→WM h0 h y l→wdsT s=l++wdsL w (s.drop i)→Lz64 (WordsEnd s h0) m (.str s) y (.str w) (.int .i64 i) h
 | j,i,0,y,w,l,h,hij,hm,_,_,_,_=>by omega
 | 0,i,m + 1,y,w,l,h,hij,hm,hw,hl,p,hr=>by
   obtain rfl:i=s.length:=by omega
   rw [Lz64_eq]
   refine bindV_mk (len_str (by kernel_rfl)) ?_
   refine bindS_mk b_lss ?_
   rw [decide_eq_false (by omega)]
   refine i_f ?_
   exact Meet.of (end195 (by omega) p (by rw [hr,List.drop_length];rfl))
 | j + 1,i,m + 1,y,w,l,h,hij,hm,hw,hl,p,hr=>by
   obtain ⟨b,hb⟩:∃ b,s[i]?=some b:=⟨s[i]'(by omega),List.getElem?_eq_getElem (by omega)⟩
   rw [drop_at hb,wdsL] at hr
   rw [Lz64_eq]
   refine bindV_mk (len_str (by kernel_rfl)) ?_
   refine bindS_mk b_lss ?_
   rw [decide_eq_true (by omega)]
   refine i_t ?_
   refine Meet.of (cast_p (Jz4c_eq _ _ _ _ _ _ _) ?_)
   refine bindS_mk (ixS (b:=b) (by kernel_rfl) (by omega) (by rw [show ((i:Nat):Int).toNat=i by omega];exact hb)) ?_
   refine bindS_mk b_eql ?_
   refine i_split (fun c=>?_) (fun c=>?_)
   · replace c:=eq_of_beq c
     have hb32:b=32:=UInt8.toNat_inj.1 (by show b.toNat=32;omega)
     rw [if_pos hb32] at hr
     refine bindE (bs1_at (e:=9) (by kernel_rfl) zz9 (show hasShape Pg (.str w) 9=true by kernel_rfl)) fun h1 u1=>?_
     obtain ⟨y',h2,e2,p2⟩:=p.app u1 (by omega)
     refine bindV_mk e2 ?_
     refine Meet.of (cast_p (Jz4d_eq _ _ _ _ _ _ _) ?_)
     refine bindS_mk (w_add (wrap_i64 (by omega) (by omega))) ?_
     exact Meet.of (loop195 hs j (i + 1) m y' [] (l++[w]) h2 (by omega) (by omega) (by simp) (by simp;omega) p2 (by rw [hr];simp))
   · replace c:=ne_of_beq_false c
     have hb32:b≠32:=fun q=>by subst q;exact c rfl
     rw [if_neg hb32] at hr
     refine bindS_mk (w_add (wrap_i64 (by omega) (by omega))) ?_
     refine bindS_mk (sl_str (l:=i) (k:=i + 1) (by kernel_rfl) (by rw [bnd_i (by omega)];simp) (by rw [bnd_i (by omega)];congr 1) (by omega) (by omega)) ?_
     rw [drop_at hb,show i + 1 - i=1 by omega]
     refine bindS_mk (t_add (by simp;omega)) ?_
     refine Meet.of (cast_p (Jz4d_eq _ _ _ _ _ _ _) ?_)
     refine bindS_mk (w_add (wrap_i64 (by omega) (by omega))) ?_
     exact Meet.of (loop195 hs j (i + 1) m y (w++[b]) l h (by omega) (by omega) (by simp;omega) (by omega) p hr)
end
theorem wordsRP (s:List UInt8) (hs:s.length≤200000) (h0:AH):ACalls Pg 195 [.str s] h0 (WordsEnd s h0) :=
 C195 _ _ _ ⟨s.length + 1,Meet.of (loop195 hs s.length 0 (s.length + 1) _ [] [] _ (by omega) (by omega) (by simp) (by simp) ⟨.inl ⟨rfl,rfl⟩,(fun k _ len q=>by cases q),Nat.le_refl _,fun _ _=>rfl⟩ rfl)⟩
end Go.Proofs.YtcglbpjpbjaecaaGreat.Sh
namespace Go.Proofs.YtcglbpjpbjaecaaGreat.Sh
open Go Go.Ab Go.RowKit
open Go.Proofs.YtcglbpjpbjaecaaGreat.Ru (Pg okP)
set_option maxRecDepth 10000
set_option linter.unusedSectionVars false
def Wds (h:AH) (y:V) (l:List (List UInt8)):Prop:=∃ n,n < h.next∧y=.slc (some (⟨n,.row 9,[]⟩,0)) l.length∧h.m n=some (.cells true (.row 9) (.agg (l.map .str)))
theorem WdsB.any {h0 h:AH} {y:V} {l:List (List UInt8)} (b:WdsB h0 h y l):Wds h y l:=by
 obtain ⟨n,_,b,c,d⟩:=b
 exact ⟨n,b,c,d⟩
theorem Wds.keep {h h':AH} {y:V} {l:List (List UInt8)} (b:Wds h y l) (hn:h.next≤h'.next) (hk:∀ n,n < h.next→h'.m n=h.m n):Wds h' y l:=by
 obtain ⟨n,b,c,d⟩:=b
 exact ⟨n,by omega,c,(hk n b).trans d⟩
theorem wds_get {l:List (List UInt8)} {i:Nat} (hi:i < l.length):getV (.agg (l.map V.str)) [0 + ((i:Nat):Int).toNat]=some (.str (l.getD i [])) :=
 getV_row (by rw [show 0 + ((i:Nat):Int).toNat=i by omega,List.getElem?_map,List.getD_eq_getElem?_getD,List.getElem?_eq_getElem hi];rfl)
section
variable {h:AH} {l:List (List UInt8)} {q:AEnd→AH→Prop} {p:Nat}
theorem loop196 (pm:h.m p=some (.cells true (.row 9) (.agg (l.map .str)))) (i:Nat) (hi:i < 1000) (hw:(l.getD i []).length≤200000):∀ (j k m:Nat) (n:Int) (B:Nat),k + j=12→j < m→B * 10 ^ j≤1000000000000→n + 23≤23 * B→- n + 23≤23 * B→q (.ret (.int .i64 (valL j n ((l.getD i []).drop k)))) h→Lz65 q m (.slc (some (⟨p,.row 9,[]⟩,0)) l.length) (.int .i64 i) (.int .i64 n) (.int .i64 k) h
 | j,k,0,n,B,hk,hm,_,_,_,_=>by omega
 | j,k,m + 1,n,B,hk,hm,hB,b1,b2,hq=>by
   have stop:∀ c,c=false→valL j n ((l.getD i []).drop k)=n→Gz1h q m (.slc (some (⟨p,.row 9,[]⟩,0)) l.length) (.int .i64 i) (.int .i64 n) (.int .i64 k) (.bool true) (.bool c) h:=by
     intro c hc he
     subst hc
     rw [he] at hq
     rw [Gz1h_eq]
     refine bindV_mk p_t ?_
     refine g_ft ?_
     refine Meet.of (cast_p (Gz1i_eq _ _ _ _ _ _ _ _ _) ?_)
     refine bindV_mk p_f ?_
     refine Meet.of (cast_p (Jz4f_eq _ _ _ _ _ _ _ _) ?_)
     refine i_f ?_
     refine Meet.of (cast_p (Jz4i_eq _ _ _) ?_)
     exact hq
   rw [Lz65_eq]
   refine bindV_mk (len_slc (by kernel_rfl)) ?_
   refine bindS_mk b_lss ?_
   by_cases hl:i < l.length
   · rw [decide_eq_true (by omega)]
     refine g_tt ?_
     refine bindS_mk (ia_slc _ (by kernel_rfl) (by omega) (by omega)) ?_
     refine bindV_mk (ld_mk pm (by kernel_rfl) (wds_get hl)) ?_
     refine bindV_mk (len_str (by kernel_rfl)) ?_
     refine bindS_mk b_lss ?_
     by_cases hkw:k < (l.getD i []).length
     · rw [decide_eq_true (by omega)]
       refine Meet.of (cast_p (Gz1h_eq _ _ _ _ _ _ _ _ _) ?_)
       refine bindV_mk p_t ?_
       refine g_tt ?_
       refine bindS_mk b_lss ?_
       match j with
       | 0 =>
         rw [decide_eq_false (by omega)]
         refine Meet.of (cast_p (Gz1i_eq _ _ _ _ _ _ _ _ _) ?_)
         refine bindV_mk p_t ?_
         refine Meet.of (cast_p (Jz4f_eq _ _ _ _ _ _ _ _) ?_)
         refine i_f ?_
         refine Meet.of (cast_p (Jz4i_eq _ _ _) ?_)
         exact hq
       | j + 1 =>
         rw [decide_eq_true (by omega)]
         refine Meet.of (cast_p (Gz1i_eq _ _ _ _ _ _ _ _ _) ?_)
         refine bindV_mk p_t ?_
         refine Meet.of (cast_p (Jz4f_eq _ _ _ _ _ _ _ _) ?_)
         refine i_t ?_
         refine Meet.of (cast_p (Jz4g_eq _ _ _ _ _ _ _) ?_)
         obtain ⟨c,hc⟩:∃ c,(l.getD i [])[k]?=some c:=⟨(l.getD i [])[k]'hkw,List.getElem?_eq_getElem hkw⟩
         have hc8:c.toNat < 256:=UInt8.toNat_lt c
         have hB2:B * 10≤1000000000000:=by
           have h1:B * 10≤B * 10 ^ (j + 1):=Nat.mul_le_mul_left _ (by rw [Nat.pow_succ];have:=Nat.pos_of_ne_zero (show (10:Nat) ^ j≠0 by simp);omega)
           omega
         rw [drop_at hc,valL] at hq
         refine bindS_mk (w_mul (wrap_i64 (by omega) (by omega))) ?_
         refine bindS_mk (ia_slc _ (by kernel_rfl) (by omega) (by omega)) ?_
         refine bindV_mk (ld_mk pm (by kernel_rfl) (wds_get hl)) ?_
         refine bindS_mk (ixS (b:=c) (by kernel_rfl) (by omega) (by rw [show ((k:Nat):Int).toNat=k by omega];exact hc)) ?_
         refine bindS_mk (cv_wr (d:=3) (k:=.i64) (by kernel_rfl) (wrap_i64 (by omega) (by omega))) ?_
         refine bindS_mk (w_add (wrap_i64 (by omega) (by omega))) ?_
         refine bindS_mk (w_sub (wrap_i64 (by omega) (by omega))) ?_
         refine Meet.of (cast_p (Jz4h_eq _ _ _ _ _ _ _) ?_)
         refine bindS_mk (w_add (wrap_i64 (by omega) (by omega))) ?_
         exact Meet.of (loop196 pm i hi hw j (k + 1) m _ (B * 10) (by omega) (by omega) (by rw [Nat.mul_assoc,← Nat.pow_succ'];exact hB) (by omega) (by omega) hq)
     · rw [decide_eq_false (by omega)]
       exact Meet.of (stop false rfl (by rw [List.drop_eq_nil_of_le (by omega),valL_end]))
   · rw [decide_eq_false (by omega)]
     refine g_ft ?_
     have hn:(l.getD i [])=[]:=by rw [List.getD_eq_getElem?_getD,List.getElem?_eq_none (by omega)];rfl
     rw [hn,List.drop_nil,valL_end] at hq
     refine Meet.of (cast_p (Gz1h_eq _ _ _ _ _ _ _ _ _) ?_)
     refine bindV_mk p_f ?_
     refine g_ft ?_
     refine Meet.of (cast_p (Gz1i_eq _ _ _ _ _ _ _ _ _) ?_)
     refine bindV_mk p_f ?_
     refine Meet.of (cast_p (Jz4f_eq _ _ _ _ _ _ _ _) ?_)
     refine i_f ?_
     refine Meet.of (cast_p (Jz4i_eq _ _ _) ?_)
     exact hq
end
theorem valT_lt (l:List (List UInt8)) (i:Nat):-23000000000000≤valT l i∧valT l i≤23000000000000:=by
 have key:∀ (j:Nat) (n:Int) (s:List UInt8) (B:Nat),B * 10 ^ j≤1000000000000→n + 23≤23 * B→- n + 23≤23 * B→-23000000000000≤valL j n s∧valL j n s≤23000000000000:=by
   intro j
   induction j with
   | zero=>intro n s B hB b1 b2;simp only [Nat.pow_zero,Nat.mul_one] at hB;rw [valL];omega
   | succ j ih =>
     intro n s B hB b1 b2
     have h1:B * 1≤B * 10 ^ (j + 1):=Nat.mul_le_mul_left _ (Nat.pos_of_ne_zero (by simp))
     cases s with
     | nil=>rw [valL];omega
     | cons c s =>
       have hc8:c.toNat < 256:=UInt8.toNat_lt c
       rw [valL]
       exact ih _ s (B * 10) (by rw [Nat.mul_assoc,← Nat.pow_succ'];exact hB) (by omega) (by omega)
 exact key 12 0 _ 1 (by decide) (by decide) (by decide)
theorem valueRP {h:AH} {y:V} {l:List (List UInt8)} (b:Wds h y l) (i:Nat) (hi:i < 1000) (hw:∀ w∈l,w.length≤200000):ACalls Pg 196 [y,.int .i64 i] h (pureE (.int .i64 (valT l i)) h):=by
 have hw':(l.getD i []).length≤200000:=by
   by_cases hl:i < l.length
   · rw [List.getD_eq_getElem?_getD,List.getElem?_eq_getElem hl];exact hw _ (List.getElem_mem hl)
   · rw [List.getD_eq_getElem?_getD,List.getElem?_eq_none (by omega)];simp
 obtain ⟨p,pn,rfl,pm⟩:=b
 exact C196 _ _ _ _ ⟨13,Meet.of (loop196 (q:=pureE (.int .i64 (valT l i)) h) pm i hi hw' 12 0 13 0 1 (by omega) (by omega) (by decide) (by decide) (by decide) ⟨rfl,rfl⟩)⟩
end Go.Proofs.YtcglbpjpbjaecaaGreat.Sh
namespace Go.Proofs.YtcglbpjpbjaecaaGreat.Sh
open Go Go.Ab Go.RowKit
open Go.Proofs.YtcglbpjpbjaecaaGreat.Ru (Pg okP)
set_option maxRecDepth 10000
set_option linter.unusedSectionVars false
structure GM (e:Nat) (h0 h:AH) (y:V) (xs:List V):Prop where
 row:RowB e h y xs
 y:Young e h0.next y
 nx:h0.next≤h.next
 fr:∀ n,n < h0.next→h.m n=h0.m n
theorem GM.nil (e:Nat) (h0:AH):GM e h0 h0 (.slc none 0) []:=⟨.inl ⟨rfl,rfl⟩,(fun k _ len q=>by cases q),Nat.le_refl _,fun _ _=>rfl⟩
theorem GM.keep {e:Nat} {h0 h h':AH} {y:V} {xs:List V} (p:GM e h0 h y xs) (hn:h.next≤h'.next) (hk:∀ n,n < h.next→h'.m n=h.m n):GM e h0 h' y xs:=by
 refine ⟨?_,p.y,Nat.le_trans p.nx hn,fun n q=>(hk n (by have:=p.nx;omega)).trans (p.fr n q)⟩
 rcases p.row with ⟨rfl,q⟩ | ⟨n,q1,rfl,q3⟩
 · exact .inl ⟨rfl,q⟩
 · exact .inr ⟨n,by omega,rfl,(hk n q1).trans q3⟩
theorem GM.app {e t:Nat} {h0 h h1:AH} {y:V} {xs ws:List V} (p:GM e h0 h y xs) (u:New h h1 (.cells true (.row e) (.agg ws))) (hc:apOk Pg t t e=true) (hw:ws≠[]) (hl:(xs.length + ws.length) * Pg.bytesOf e≤140737488355328) :
   ∃ y' h2,aBuiltin Pg h1 .append [t,t] [y,.slc (some (⟨h.next,.row e,[]⟩,0)) ws.length]=some (y',h2)∧GM e h0 h2 y' (xs++ws):=by
 have n1:=u.next
 have p1:=p.keep (h':=h1) (by omega) fun n q=>u.other n (by omega)
 have nx:=p.nx
 obtain ⟨y',h2,e2,r2,n2,f2,y2⟩:=p1.row.app hc (elems_row (by exact u.at_)) hw hl
 exact ⟨y',h2,e2,r2,fun n q len=>y2 n (by omega) len,by omega,fun n q=>(f2 n (by omega) (p.y n q)).trans (p1.fr n q)⟩
theorem bufB_row {e:Nat} {h:AH} {y:V} {l:List UInt8} (b:RowB e h y (bytesV l)):BufB e h y l:=by
 rcases b with ⟨rfl,q⟩ | ⟨n,q1,q2,q3⟩
 · refine .inl ⟨rfl,?_⟩
   cases l with
   | nil=>rfl
   | cons a l=>cases q
 · exact .inr ⟨n,q1,by rw [q2,bytesV_len],q3⟩
theorem letN_int (c:UInt8):((letN c:Nat):Int)=((if 97≤(c.toNat:Int) then (c.toNat:Int) - 39 else (c.toNat:Int)) - 48) % 256:=by
 unfold letN
 have hc8:c.toNat < 256:=UInt8.toNat_lt c
 by_cases h:97≤c.toNat
 · rw [if_pos h,if_pos (by omega)];omega
 · rw [if_neg h,if_neg (by omega)];omega
theorem u8w (x:Int):IntKind.u8.wrap x=x % 256:=rfl
theorem letB_eq {a b:UInt8} {v1 v2:Nat} (e1:v1=(0 * 16 + letN a) % 256) (e2:v2=(v1 * 16 + letN b) % 256):letB a b=UInt8.ofNat v2∧v2 < 256:=by
 have h1:letN a < 256:=Nat.mod_lt _ (by decide)
 have h2:v1=letN a:=by rw [e1,Nat.zero_mul,Nat.zero_add,Nat.mod_eq_of_lt h1]
 rw [e2,h2]
 exact ⟨rfl,Nat.mod_lt _ (by decide)⟩
section
variable {h h0:AH} {l:List (List UInt8)} {Q:AEnd→AH→Prop} {p m i k:Nat} {y x x52 x53:V}
theorem letter197 {n2:Nat} {v:Nat} {a b:UInt8} (hm:h.m n2=some (.cells true (.row 5) (.agg (bytesV [a,b])))) (t:Nat) (ht:t < 2) (hv:v < 256) {m1:Nat} (c:UInt8) (hc:[a,b][t]?=some c)
   (cont:∀ v',v'=(v * 16 + letN c) % 256→Lz67 Q m m1 y (.int .i64 i) x (.int .i64 k) (.int .u8 ((v':Nat):Int)) (.slc (some (⟨n2,.row 5,[]⟩,0)) 2) (.int .i64 2) (.int .i64 ((t + 1:Nat):Int)) h) :
   Jz4m Q m m1 y (.int .i64 i) x (.int .i64 k) (.int .u8 (v:Nat)) (.slc (some (⟨n2,.row 5,[]⟩,0)) 2) (.int .i64 2) (.int .i64 t) h:=by
 have hc8:c.toNat < 256:=UInt8.toNat_lt c
 have hl:=letN_int c
 have fin:∀ z:Int,z=(if 97≤(c.toNat:Int) then (c.toNat:Int) - 39 else (c.toNat:Int))→Jz4n Q m m1 y (.int .i64 i) x (.int .i64 k) (.int .u8 (v:Nat)) (.int .u8 z) (.slc (some (⟨n2,.row 5,[]⟩,0)) 2) (.int .i64 2) (.int .i64 t) h:=by
   intro z hz
   rw [Jz4n_eq]
   refine bindS_mk b_mul ?_
   refine bindS_mk b_sub ?_
   refine bindS_mk b_add ?_
   refine Meet.of (cast_p (Jz4o_eq _ _ _ _ _ _ _ _ _ _ _ _) ?_)
   refine bindS_mk (w_add (wrap_i64 (by omega) (by omega))) ?_
   have e1:IntKind.u8.wrap (IntKind.u8.wrap ((v:Int) * 16) + IntKind.u8.wrap (z - 48))=(((v * 16 + letN c) % 256:Nat):Int):=by
     rw [u8w,u8w,u8w,hz];rw [← hl];omega
   rw [e1]
   exact Meet.of (cont _ rfl)
 rw [Jz4m_eq]
 refine bindS_mk (ia_slc _ (by kernel_rfl) (by omega) (by omega)) ?_
 refine bindV_mk (ld_mk hm (by kernel_rfl) (getV_row (w:=.int .u8 c.toNat) (by rw [show 0 + ((t:Nat):Int).toNat=t by omega];exact bytesV_get hc))) ?_
 refine bindS_mk b_geq ?_
 refine i_split (fun q=>?_) (fun q=>?_)
 · replace q:=of_decide_eq_true q
   refine bindS_mk (w_sub (wr_u8 (by omega) (by omega))) ?_
   exact Meet.of (fin _ (by rw [if_pos (by omega)]))
 · replace q:=of_decide_eq_false q
   exact Meet.of (fin _ (by rw [if_neg (by omega)]))
theorem bys_drop {s:List UInt8} {k:Nat} {a b:UInt8} (ha:s[k]?=some a) (hb:s[k + 1]?=some b):bysL (s.drop k)=letB a b :: bysL (s.drop (k + 2)):=by
 rw [drop_at ha,drop_at hb,bysL]
theorem bys_end {s:List UInt8} {k:Nat} (h:s.length≤k + 1):bysL (s.drop k)=[]:=by
 have hl:(s.drop k).length≤1:=by simp;omega
 match hd:s.drop k,hl with
 | [],_=>rfl
 | [a],_=>rfl
theorem round197 {p i k m:Nat} {x:V} {h:AH} {out:List UInt8} {a b:UInt8} (pm1:h.m p=some (.cells true (.row 9) (.agg (l.map .str)))) (hi:i < l.length) (hi2:i < 1000) (hw:(l.getD i []).length≤200000) (q:k + 1 < (l.getD i []).length) (ho:out.length≤k) (g:GM 5 h0 h x (bytesV out))
   (ha:(l.getD i [])[k]?=some a) (hb:(l.getD i [])[k + 1]?=some b) (cont:∀ x' h',GM 5 h0 h' x' (bytesV (out++[letB a b]))→Lz66 Q m (.slc (some (⟨p,.row 9,[]⟩,0)) l.length) (.int .i64 i) x' (.int .i64 ((k:Int) + 2)) h') :
   Jz4l Q m (.slc (some (⟨p,.row 9,[]⟩,0)) l.length) (.int .i64 i) x (.int .i64 k) h:=by
 rw [Jz4l_eq]
 refine bindSO_mk (ia_slc _ (by kernel_rfl) (by omega) (by omega)) ?_
 refine bindVO_mk (ld_mk pm1 (by kernel_rfl) (wds_get hi)) ?_
 refine bindSO_mk (ixS (b:=a) (by kernel_rfl) (by omega) (by rw [show ((k:Nat):Int).toNat=k by omega];exact ha)) ?_
 refine bindSO_mk (ia_slc _ (by kernel_rfl) (by omega) (by omega)) ?_
 refine bindVO_mk (ld_mk pm1 (by kernel_rfl) (wds_get hi)) ?_
 refine bindSO_mk (w_add (wrap_i64 (by omega) (by omega))) ?_
 refine bindSO_mk (ixS (b:=b) (by kernel_rfl) (by omega) (by rw [show ((k:Nat):Int) + 1=((k + 1:Nat):Int) by omega,show ((k + 1:Nat):Int).toNat=k + 1 by omega];exact hb)) ?_
 refine bindE (bs2_at (e:=5) (by kernel_rfl) (show zeroV Pg 5=some (.int .u8 0) by kernel_rfl) (show hasShape Pg (.int .u8 a.toNat) 5=true by kernel_rfl) (show hasShape Pg (.int .u8 b.toNat) 5=true by kernel_rfl)) fun h1 u1=>?_
 have n1:=u1.next
 have g1:=g.keep (h':=h1) (by omega) fun n q=>u1.other n (by omega)
 refine bindVO_mk (len_slc (by kernel_rfl)) ?_
 have ha1:=u1.at_
 refine ⟨3,Meet.of ?_⟩
 have ht:∀ {t:Nat} {w:Int} {m1:Nat},t < 2→(Jz4m Q m m1 (.slc (some (⟨p,.row 9,[]⟩,0)) l.length) (.int .i64 i) x (.int .i64 k) (.int .u8 w) (.slc (some (⟨h.next,.row 5,[]⟩,0)) 2) (.int .i64 2) (.int .i64 t) h1)→Lz67 Q m (m1 + 1) (.slc (some (⟨p,.row 9,[]⟩,0)) l.length) (.int .i64 i) x (.int .i64 k) (.int .u8 w) (.slc (some (⟨h.next,.row 5,[]⟩,0)) 2) (.int .i64 2) (.int .i64 t) h1:=by
   intro t w m1 h2 c
   rw [Lz67_eq]
   refine bindS_mk b_lss ?_
   rw [decide_eq_true (by omega)]
   refine i_t ?_
   exact Meet.of c
 refine ht (t:=0) (w:=0) (by omega) (letter197 (v:=0) (a:=a) (b:=b) ha1 0 (by omega) (by omega) a rfl fun v1 e1=>?_)
 refine ht (t:=1) (by omega) (letter197 (v:=v1) (a:=a) (b:=b) ha1 1 (by omega) (by omega) b rfl fun v2 e2=>?_)
 rw [Lz67_eq]
 refine bindS_mk b_lss ?_
 rw [decide_eq_false (by decide)]
 refine i_f ?_
 refine Meet.of (cast_p (Jz4p_eq _ _ _ _ _ _ _ _) ?_)
 obtain ⟨e3,hv2⟩:=letB_eq e1 e2
 refine bindE (bs1_at (e:=5) (by kernel_rfl) (show zeroV Pg 5=some (.int .u8 0) by kernel_rfl) (show hasShape Pg (.int .u8 ((v2:Nat):Int)) 5=true by kernel_rfl)) fun h2 u2=>?_
 obtain ⟨x',h3,e4,g3⟩:=g1.app (t:=207) u2 ap207 (by simp) (by rw [b5,bytesV_len];simp;omega)
 refine bindV_mk e4 ?_
 refine Meet.of (cast_p (Jz4q_eq _ _ _ _ _ _ _) ?_)
 refine bindS_mk (w_add (wrap_i64 (by omega) (by omega))) ?_
 have g4:GM 5 h0 h3 x' (bytesV (out++[letB a b])):=by
   rw [bytesV_app,e3]
   have:bytesV [UInt8.ofNat v2]=[.int .u8 ((v2:Nat):Int)]:=by simp [bytesV,Nat.mod_eq_of_lt hv2]
   rw [this];exact g3
 exact Meet.of (cont x' h3 g4)
theorem loop197 (pn:p < h0.next) (pm:h0.m p=some (.cells true (.row 9) (.agg (l.map .str)))) (hi:i < l.length) (hi2:i < 1000) (hw:(l.getD i []).length≤200000):∀ (j k m:Nat) (x:V) (out:List UInt8) (h:AH),(l.getD i []).length≤k + 2 * j + 1→j < m→out.length≤k→k≤(l.getD i []).length→GM 5 h0 h x (bytesV out) →
   Lz66 (Ends (.str (out++bysL ((l.getD i []).drop k))) h0) m (.slc (some (⟨p,.row 9,[]⟩,0)) l.length) (.int .i64 i) x (.int .i64 k) h
 | j,k,0,x,out,h,hj,hm,_,_,_=>by omega
 | j,k,m + 1,x,out,h,hj,hm,ho,hk,g=>by
   have pm1:h.m p=some (.cells true (.row 9) (.agg (l.map .str))):=(g.fr p pn).trans pm
   rw [Lz66_eq]
   refine bindS_mk (w_add (wrap_i64 (by omega) (by omega))) ?_
   refine bindS_mk (ia_slc _ (by kernel_rfl) (by omega) (by omega)) ?_
   refine bindV_mk (ld_mk pm1 (by kernel_rfl) (wds_get hi)) ?_
   refine bindV_mk (len_str (by kernel_rfl)) ?_
   refine bindS_mk b_lss ?_
   refine i_split (fun q=>?_) (fun q=>?_)
   · replace q:=of_decide_eq_true q
     have q:k + 1 < (l.getD i []).length:=by omega
     obtain ⟨a,ha⟩:∃ a,(l.getD i [])[k]?=some a:=⟨(l.getD i [])[k]'(by omega),List.getElem?_eq_getElem (by omega)⟩
     obtain ⟨b,hb⟩:∃ b,(l.getD i [])[k + 1]?=some b:=⟨(l.getD i [])[k + 1]'(by omega),List.getElem?_eq_getElem (by omega)⟩
     rw [bys_drop ha hb]
     refine Meet.of (round197 pm1 hi hi2 hw q ho g ha hb fun x' h3 g4=>?_)
     match j with
     | 0=>omega
     | j + 1 =>
       have:=loop197 pn pm hi hi2 hw j (k + 2) m x' (out++[letB a b]) h3 (by omega) (by omega) (by simp;omega) (by omega) g4
       rw [List.append_assoc] at this
       exact this
   · replace q:=of_decide_eq_false q
     refine Meet.of (cast_p (Jz4r_eq _ _ _) ?_)
     rw [bys_end (by omega),List.append_nil]
     refine bindS_mk ((bufB_row g.row).str (by kernel_rfl)) ?_
     exact ⟨rfl,g.fr⟩
end
theorem bytesRP {h0:AH} {y:V} {l:List (List UInt8)} (b:Wds h0 y l) (i:Nat) (hi2:i < 1000) (hw:∀ w∈l,w.length≤200000):ACalls Pg 197 [y,.int .i64 i] h0 (pureE (.str (bytT l i)) h0):=by
 refine acalls_forget (show oldV _ (V.str (bytT l i))=true from rfl) ?_
 obtain ⟨p,pn,rfl,pm⟩:=b
 show ACalls Pg 197 _ h0 (Ends (.str (bytT l i)) h0)
 refine C197 _ _ _ _ ?_
 refine bindV_mk (len_slc (by kernel_rfl)) ?_
 refine bindS_mk b_geq ?_
 have stop:bytT l i=[]→∀ v,v=true→Jz4j (Ends (.str (bytT l i)) h0) (.slc (some (⟨p,.row 9,[]⟩,0)) l.length) (.int .i64 i) (.bool v) h0:=by
   intro he v hv
   subst hv
   rw [Jz4j_eq]
   refine i_t ?_
   rw [he]
   exact ⟨rfl,fun _ _=>rfl⟩
 by_cases hl:i < l.length
 · rw [decide_eq_false (by omega)]
   refine g_ff ?_
   refine bindS_mk (ia_slc _ (by kernel_rfl) (by omega) (by omega)) ?_
   refine bindV_mk (ld_mk pm (by kernel_rfl) (wds_get hl)) ?_
   refine bindS_mk t_eql ?_
   refine Meet.of (cast_p (Gz1j_eq _ _ _ _ _ _) ?_)
   refine bindV_mk p_f ?_
   by_cases h45:l.getD i []=[45]
   · rw [show (l.getD i [] == [45])=true from beq_iff_eq.2 h45]
     refine g_tf ?_
     refine Meet.of (cast_p (Gz1k_eq _ _ _ _ _ _) ?_)
     refine bindV_mk p_t ?_
     exact Meet.of (stop (by unfold bytT;rw [if_pos (.inl h45)]) true rfl)
   · rw [show (l.getD i [] == [45])=false from beq_eq_false_iff_ne.2 h45]
     refine g_ff ?_
     refine bindS_mk (ia_slc _ (by kernel_rfl) (by omega) (by omega)) ?_
     refine bindV_mk (ld_mk pm (by kernel_rfl) (wds_get hl)) ?_
     refine bindV_mk (len_str (by kernel_rfl)) ?_
     refine bindS_mk b_gtr ?_
     refine Meet.of (cast_p (Gz1k_eq _ _ _ _ _ _) ?_)
     refine bindV_mk p_f ?_
     by_cases h128:128 < (l.getD i []).length
     · rw [decide_eq_true (by omega)]
       exact Meet.of (stop (by unfold bytT;rw [if_pos (.inr h128)]) true rfl)
     · rw [decide_eq_false (by omega)]
       refine Meet.of (cast_p (Jz4j_eq _ _ _ _ _) ?_)
       refine i_f ?_
       refine Meet.of (cast_p (Jz4k_eq _ _ _ _) ?_)
       have he:bytT l i=[]++bysL ((l.getD i []).drop 0):=by unfold bytT;rw [if_neg (by rintro (q | q);exact h45 q;exact h128 q)];rfl
       rw [he]
       exact ⟨_,Meet.of (loop197 pn pm hl hi2 (by omega) (l.getD i []).length 0 ((l.getD i []).length + 1) _ [] _ (by omega) (by omega) (by simp) (by omega) (GM.nil 5 h0))⟩
 · rw [decide_eq_true (by omega)]
   refine g_tf ?_
   have hn:(l.getD i [])=[]:=by rw [List.getD_eq_getElem?_getD,List.getElem?_eq_none (by omega)];rfl
   have he:bytT l i=[]:=by unfold bytT;rw [hn,if_neg (by decide)];rfl
   refine Meet.of (cast_p (Gz1j_eq _ _ _ _ _ _) ?_)
   refine bindV_mk p_t ?_
   refine g_tf ?_
   refine Meet.of (cast_p (Gz1k_eq _ _ _ _ _ _) ?_)
   refine bindV_mk p_t ?_
   exact Meet.of (stop he true rfl)
end Go.Proofs.YtcglbpjpbjaecaaGreat.Sh
namespace Go.Proofs.YtcglbpjpbjaecaaGreat.Sh
open Go Go.Ab Go.RowKit
open Go.Proofs.YtcglbpjpbjaecaaGreat.Ru (Pg okP)
set_option maxRecDepth 10000
set_option linter.unusedSectionVars false
theorem wdsL_len:∀ (s w x:List UInt8),x∈wdsL w s→x.length≤w.length + s.length
 | [],w,x,h=>by simp [wdsL] at h;subst h;simp
 | c :: s,w,x,h=>by
   unfold wdsL at h
   split at h
   · rcases List.mem_cons.1 h with rfl | q
     · simp
     · have:=wdsL_len s [] x q
       simp at this ⊢;omega
   · have:=wdsL_len s (w++[c]) x h
     simp at this ⊢;omega
theorem wds_len {s x:List UInt8} (h:x∈wdsT s):x.length≤s.length:=by
 have:=wdsL_len s [] x h
 simpa using this
theorem wdsL_pos:∀ (s w:List UInt8),1≤(wdsL w s).length
 | [],w=>by simp [wdsL]
 | c :: s,w=>by
   unfold wdsL
   split
   · simp
   · exact wdsL_pos s (w++[c])
theorem word_len {s:List UInt8} {i:Nat}:((wdsT s).getD i []).length≤s.length:=by
 by_cases hl:i < (wdsT s).length
 · rw [List.getD_eq_getElem?_getD,List.getElem?_eq_getElem hl];exact wds_len (List.getElem_mem hl)
 · rw [List.getD_eq_getElem?_getD,List.getElem?_eq_none (by omega)];simp
theorem bysL_len:∀ s:List UInt8,(bysL s).length≤s.length
 | []=>by simp [bysL]
 | [a]=>by simp [bysL]
 | a :: b :: s=>by
   have:=bysL_len s
   simp [bysL];omega
theorem bytT_len (l:List (List UInt8)) (i:Nat):(bytT l i).length≤128:=by
 unfold bytT
 split
 · simp
 · have:=bysL_len (l.getD i [])
   omega
theorem kindR_lt (w:List UInt8):kindL w kindNames 0 99≤99:=kindL_le w kindNames 0 99 99 (Nat.le_refl _) (by decide)
theorem ckT_lt (l:List (List UInt8)):ckT l≤99:=by
 unfold ckT
 split
 · exact kindL_le _ names 0 99 99 (Nat.le_refl _) (by decide)
 · exact Nat.le_refl _
theorem evR_keep (s:List UInt8):(evR s).keep.length≤s.length:=by
 unfold evR
 simp only []
 split
 · exact Nat.zero_le _
 · split
   · show (if _ then _ else _:List Bool).length≤_
     split
     · rw [List.length_map];exact word_len
     · exact Nat.zero_le _
   · exact Nat.zero_le _
theorem evR_ok (s:List UInt8) (hs:s.length≤200000):(evR s).ok:=by
 have hk:=evR_keep s
 have h1:=kindR_lt ((wdsT s).getD 0 [])
 have h2:=ckT_lt (wdsT s)
 have v1:=valT_lt (wdsT s) 1
 have v5:=valT_lt (wdsT s) 5
 have hb:=bytT_len (wdsT s) 6
 have a3:(valT (wdsT s) 3 % 18446744073709551616).toNat < 18446744073709551616:=by omega
 have a4:(valT (wdsT s) 4 % 65536).toNat < 65536:=by omega
 have keep:(evR s).keep.length≤140737488355328:=by omega
 have key:evR s=evR s:=rfl
 unfold evR at keep ⊢
 simp only [] at keep ⊢
 split
 · refine ⟨by show 0 < 256;omega,by show _≤valT _ 1∧valT _ 1 < _;omega,ev0_ok.b,by show ckT _ < 256;omega,?_,?_,?_,?_,ev0_ok.keep⟩
   · show (if 1≤ckT (wdsT s)∧ckT (wdsT s)≤4 then (valT (wdsT s) 3 % 18446744073709551616).toNat else 0) < _
     split
     · exact a3
     · decide
   · show (if ckT (wdsT s)=1∨ckT (wdsT s)=2 then (valT (wdsT s) 4 % 65536).toNat else 0) < _
     split
     · exact a4
     · decide
   · show _≤(if _ then _ else _:Int)∧(if _ then _ else _:Int) < _
     split <;> omega
   · show (if _ then _ else _:List UInt8).length≤_
     split
     · omega
     · exact Nat.zero_le _
 · rename_i h0
   rw [if_neg h0] at keep
   split
   · rename_i h5
     rw [if_pos h5] at keep
     exact ⟨by show 5 < 256;omega,ev0_ok.a,ev0_ok.b,ev0_ok.ck,ev0_ok.txn,ev0_ok.page,ev0_ok.off,ev0_ok.s,keep⟩
   · exact ⟨by show kindL _ _ _ _ < 256;omega,by show _≤valT _ 1∧valT _ 1 < _;omega,ev0_ok.b,ev0_ok.ck,ev0_ok.txn,ev0_ok.page,ev0_ok.off,ev0_ok.s,ev0_ok.keep⟩
theorem cv64 {h:AH} {x:Int}:aConv Pg h 3 49 (.int .i64 x)=some (.int .u64 (((x % 18446744073709551616).toNat:Nat):Int)):=by
 rw [cv_int (d:=49) .u64 (by kernel_rfl)]
 have:IntKind.u64.wrap x=(((x % 18446744073709551616).toNat:Nat):Int):=by
   show x % 18446744073709551616=_
   omega
 rw [this]
theorem cv316 {h:AH} {x:Int}:aConv Pg h 3 22 (.int .i64 x)=some (.int .u16 (((x % 65536).toNat:Nat):Int)):=by
 rw [cv_int (d:=22) .u16 (by kernel_rfl)]
 have:IntKind.u16.wrap x=(((x % 65536).toNat:Nat):Int):=by
   show x % 65536=_
   omega
 rw [this]
end Go.Proofs.YtcglbpjpbjaecaaGreat.Sh
namespace Go.Proofs.YtcglbpjpbjaecaaGreat.Sh
open Go Go.Ab Go.RowKit
open Go.Proofs.YtcglbpjpbjaecaaGreat.Ru (Pg okP)
set_option maxRecDepth 10000
set_option linter.unusedSectionVars false
abbrev wdV (p:Nat) (l:List (List UInt8)):V:=.slc (some (⟨p,.row 9,[]⟩,0)) l.length
abbrev evP (p:Nat):V:=.ptr (some ⟨p,.one 73,[]⟩)
structure EM (h0 h:AH) (p2 pW p5:Nat) (l:List (List UInt8)) (e:Ev):Prop where
 m2:∃ w,h.m p2=some (.cells true (.one 73) w)
 mW:h.m pW=some (.cells true (.row 9) (.agg (l.map .str)))
 m5:h.m p5=some (.cells true (.one 73) (evV e (.slc none 0)))
 o:h0.next≤p2∧p2 < pW∧pW < p5∧p5 < h.next
 fr:∀ n,n < h0.next→h.m n=h0.m n
theorem EM.wds {h0 h:AH} {p2 pW p5:Nat} {l:List (List UInt8)} {e:Ev} (m:EM h0 h p2 pW p5 l e):Wds h (wdV pW l) l:=⟨pW,by have:=m.o;omega,rfl,m.mW⟩
theorem EM.set {h0 h h':AH} {p2 pW p5:Nat} {l:List (List UInt8)} {e e':Ev} (m:EM h0 h p2 pW p5 l e) (u:Upd h h' p5 (.cells true (.one 73) (evV e' (.slc none 0)))):EM h0 h' p2 pW p5 l e':=by
 obtain ⟨⟨w,a⟩,b,c,⟨o1,o2,o3,o4⟩,d⟩:=m
 have n1:=u.next
 exact ⟨⟨w,(u.other _ (by omega)).trans a⟩,(u.other _ (by omega)).trans b,u.at_,⟨o1,o2,o3,by omega⟩,fun n q=>(u.other n (by omega)).trans (d n q)⟩
theorem EM.keep {h0 h h':AH} {p2 pW p5:Nat} {l:List (List UInt8)} {e:Ev} (m:EM h0 h p2 pW p5 l e) (hn:h.next≤h'.next) (hk:∀ n,n < h.next→h'.m n=h.m n):EM h0 h' p2 pW p5 l e:=by
 obtain ⟨⟨w,a⟩,b,c,⟨o1,o2,o3,o4⟩,d⟩:=m
 exact ⟨⟨w,(hk _ (by omega)).trans a⟩,(hk _ (by omega)).trans b,(hk _ (by omega)).trans c,⟨o1,o2,o3,by omega⟩,fun n q=>(hk n (by omega)).trans (d n q)⟩
section
variable {h0 h:AH} {p2 pW p5 m:Nat} {l:List (List UInt8)} {e:Ev} {Q:AEnd→AH→Prop} {x0:V}
theorem off113 (c:EM h0 h p2 pW p5 l e) (hw:∀ w∈l,w.length≤200000) (cont:∀ h',EM h0 h' p2 pW p5 l (if e.ck=2 then { e with off:=valT l 5,s:=bytT l 6 } else e)→Jz2m Q x0 (evP p2) (evP p5) h'):Jz2i Q x0 (evP p2) (wdV pW l) (evP p5) h:=by
 rw [Jz2i_eq]
 refine bindS_mk (fa_mk (by kernel_rfl)) ?_
 refine bindS_mk (fa_mk (by kernel_rfl)) ?_
 refine bindV_mk (ld_mk c.m5 (by kernel_rfl) (w:=.int .u8 e.ck) rfl) ?_
 refine bindS_mk b_eql ?_
 refine i_split (fun q=>?_) (fun q=>?_)
 · replace q:=eq_of_beq q
   have q2:e.ck=2:=by omega
   refine callS (valueRP c.wds 5 (by omega) hw) ?_
   refine bindS_mk (fa_mk (by kernel_rfl)) ?_
   refine bindS_mk (fa_mk (by kernel_rfl)) ?_
   refine bindE (st_at c.m5 (by kernel_rfl) (w:=.int .i64 e.off) rfl (by kernel_rfl) (v':=evV { e with off:=valT l 5 } (.slc none 0)) rfl) fun h1 u1=>?_
   have c1:=c.set u1
   refine callS (bytesRP c1.wds 6 (by omega) hw) ?_
   refine bindS_mk (fa_mk (by kernel_rfl)) ?_
   refine bindS_mk (fa_mk (by kernel_rfl)) ?_
   refine bindE (st_at c1.m5 (by kernel_rfl) (w:=.str e.s) rfl (by kernel_rfl) (v':=evV { e with off:=valT l 5,s:=bytT l 6 } (.slc none 0)) rfl) fun h2 u2=>?_
   exact Meet.of (cont h2 (by rw [if_pos q2];exact c1.set u2))
 · replace q:=ne_of_beq_false q
   exact Meet.of (cont h (by rw [if_neg (by omega)];exact c))
theorem page113 (c:EM h0 h p2 pW p5 l e) (hw:∀ w∈l,w.length≤200000) (cont:∀ h',EM h0 h' p2 pW p5 l (if e.ck=1∨e.ck=2 then { e with page:=(valT l 4 % 65536).toNat } else e)→Jz2i Q x0 (evP p2) (wdV pW l) (evP p5) h'):Jz2g Q x0 (evP p2) (wdV pW l) (evP p5) h:=by
 have fin:∀ b:Bool,b=decide (e.ck=1∨e.ck=2)→Jz2h Q x0 (evP p2) (wdV pW l) (evP p5) (.bool b) h:=by
   intro b hb
   rw [Jz2h_eq]
   refine i_split (fun q=>?_) (fun q=>?_)
   · rw [q] at hb
     have q2:=of_decide_eq_true hb.symm
     refine callS (valueRP c.wds 4 (by omega) hw) ?_
     refine bindS_mk cv316 ?_
     refine bindS_mk (fa_mk (by kernel_rfl)) ?_
     refine bindS_mk (fa_mk (by kernel_rfl)) ?_
     refine bindE (st_at c.m5 (by kernel_rfl) (w:=.int .u16 e.page) rfl (by kernel_rfl) (v':=evV { e with page:=(valT l 4 % 65536).toNat } (.slc none 0)) rfl) fun h1 u1=>?_
     exact Meet.of (cont h1 (by rw [if_pos q2];exact c.set u1))
   · rw [q] at hb
     have q2:=of_decide_eq_false hb.symm
     exact Meet.of (cont h (by rw [if_neg q2];exact c))
 rw [Jz2g_eq]
 refine bindS_mk (fa_mk (by kernel_rfl)) ?_
 refine bindS_mk (fa_mk (by kernel_rfl)) ?_
 refine bindV_mk (ld_mk c.m5 (by kernel_rfl) (w:=.int .u8 e.ck) rfl) ?_
 refine bindS_mk b_eql ?_
 refine g_split_f (fun q=>?_) (fun q=>?_)
 · replace q:=ne_of_beq_false q
   rw [beq_eq_false_iff_ne.2 q]
   refine bindS_mk (fa_mk (by kernel_rfl)) ?_
   refine bindS_mk (fa_mk (by kernel_rfl)) ?_
   refine bindV_mk (ld_mk c.m5 (by kernel_rfl) (w:=.int .u8 e.ck) rfl) ?_
   refine bindS_mk b_eql ?_
   refine Meet.of (cast_p (Gz4_eq _ _ _ _ _ _ _ _) ?_)
   refine bindV_mk p_f ?_
   refine Meet.of (fin _ ?_)
   by_cases r:e.ck=2
   · rw [r];rfl
   · rw [beq_eq_false_iff_ne.2 (by omega),decide_eq_false (by omega)]
 · replace q:=eq_of_beq q
   rw [q]
   refine Meet.of (cast_p (Gz4_eq _ _ _ _ _ _ _ _) ?_)
   refine bindV_mk p_t ?_
   refine Meet.of (fin _ ?_)
   rw [decide_eq_true (by omega)]
theorem txn113 (c:EM h0 h p2 pW p5 l e) (hw:∀ w∈l,w.length≤200000) (cont:∀ h',EM h0 h' p2 pW p5 l (if 1≤e.ck∧e.ck≤4 then { e with txn:=(valT l 3 % 18446744073709551616).toNat } else e)→Jz2g Q x0 (evP p2) (wdV pW l) (evP p5) h'):Jz2e Q x0 (evP p2) (wdV pW l) (evP p5) h:=by
 have fin:∀ b:Bool,b=decide (1≤e.ck∧e.ck≤4)→Jz2f Q x0 (evP p2) (wdV pW l) (evP p5) (.bool b) h:=by
   intro b hb
   rw [Jz2f_eq]
   refine i_split (fun q=>?_) (fun q=>?_)
   · rw [q] at hb
     have q2:=of_decide_eq_true hb.symm
     refine callS (valueRP c.wds 3 (by omega) hw) ?_
     refine bindS_mk cv64 ?_
     refine bindS_mk (fa_mk (by kernel_rfl)) ?_
     refine bindS_mk (fa_mk (by kernel_rfl)) ?_
     refine bindE (st_at c.m5 (by kernel_rfl) (w:=.int .u64 e.txn) rfl (by kernel_rfl) (v':=evV { e with txn:=(valT l 3 % 18446744073709551616).toNat } (.slc none 0)) rfl) fun h1 u1=>?_
     exact Meet.of (cont h1 (by rw [if_pos q2];exact c.set u1))
   · rw [q] at hb
     have q2:=of_decide_eq_false hb.symm
     exact Meet.of (cont h (by rw [if_neg q2];exact c))
 rw [Jz2e_eq]
 refine bindS_mk (fa_mk (by kernel_rfl)) ?_
 refine bindS_mk (fa_mk (by kernel_rfl)) ?_
 refine bindV_mk (ld_mk c.m5 (by kernel_rfl) (w:=.int .u8 e.ck) rfl) ?_
 refine bindS_mk b_geq ?_
 refine g_split_t (fun q=>?_) (fun q=>?_)
 · rw [q]
   replace q:=of_decide_eq_true q
   refine bindS_mk (fa_mk (by kernel_rfl)) ?_
   refine bindS_mk (fa_mk (by kernel_rfl)) ?_
   refine bindV_mk (ld_mk c.m5 (by kernel_rfl) (w:=.int .u8 e.ck) rfl) ?_
   refine bindS_mk b_leq ?_
   refine Meet.of (cast_p (Gz3_eq _ _ _ _ _ _ _ _) ?_)
   refine bindV_mk p_t ?_
   refine Meet.of (fin _ ?_)
   by_cases r:e.ck≤4
   · rw [decide_eq_true (by omega),decide_eq_true (by omega)]
   · rw [decide_eq_false (by omega),decide_eq_false (by omega)]
 · rw [q]
   replace q:=of_decide_eq_false q
   refine Meet.of (cast_p (Gz3_eq _ _ _ _ _ _ _ _) ?_)
   refine bindV_mk p_f ?_
   refine Meet.of (fin _ ?_)
   rw [decide_eq_false (by omega)]
theorem nameDrop {i:Nat} (h:i < 8):names.drop i=nameOf i :: names.drop (i + 1):=by
 match i,h with
 | 0,_=>rfl
 | 1,_=>rfl
 | 2,_=>rfl
 | 3,_=>rfl
 | 4,_=>rfl
 | 5,_=>rfl
 | 6,_=>rfl
 | 7,_=>rfl
def ckL (l:List (List UInt8)) (i c:Nat):Nat:=if 2 < l.length then kindL (l.getD 2 []) (names.drop i) i c else c
theorem ckL_step {l:List (List UInt8)} {i c:Nat} (h:i < 8):ckL l i c=ckL l (i + 1) (if 2 < l.length∧l.getD 2 []=nameOf i then i else c):=by
 unfold ckL
 by_cases h2:2 < l.length
 · rw [if_pos h2,if_pos h2,nameDrop h,kindL]
   congr 1
   by_cases q:nameOf i=l.getD 2 []
   · rw [if_pos q,if_pos ⟨h2,q.symm⟩]
   · rw [if_neg q,if_neg (fun r=>q r.2.symm)]
 · rw [if_neg h2,if_neg h2,if_neg (fun r=>h2 r.1)]
theorem name113 {i:Nat} (hi:i < 8) (c:EM h0 h p2 pW p5 l e) (cont:∀ h',EM h0 h' p2 pW p5 l { e with ck:=if 2 < l.length∧l.getD 2 []=nameOf i then i else e.ck }→Lz5u Q m x0 (evP p2) (wdV pW l) (evP p5) (.int .u8 ((i + 1:Nat):Int)) h'):Jz2b Q m x0 (evP p2) (wdV pW l) (evP p5) (.int .u8 i) h:=by
 have fin:∀ b:Bool,b=decide (2 < l.length∧l.getD 2 []=nameOf i)→Jz2c Q m x0 (evP p2) (wdV pW l) (evP p5) (.int .u8 i) (.bool b) h:=by
   intro b hb
   rw [Jz2c_eq]
   refine i_split (fun q=>?_) (fun q=>?_)
   · rw [q] at hb
     have q2:=of_decide_eq_true hb.symm
     refine bindS_mk (fa_mk (by kernel_rfl)) ?_
     refine bindS_mk (fa_mk (by kernel_rfl)) ?_
     refine bindE (st_at c.m5 (by kernel_rfl) (w:=.int .u8 e.ck) rfl (by kernel_rfl) (v':=evV { e with ck:=i } (.slc none 0)) rfl) fun h1 u1=>?_
     refine Meet.of (cast_p (Jz2d_eq _ _ _ _ _ _ _ _) ?_)
     refine bindS_mk (w_add (wr_u8 (by omega) (by omega))) ?_
     exact Meet.of (cont h1 (by rw [if_pos q2];exact c.set u1))
   · rw [q] at hb
     have q2:=of_decide_eq_false hb.symm
     refine Meet.of (cast_p (Jz2d_eq _ _ _ _ _ _ _ _) ?_)
     refine bindS_mk (w_add (wr_u8 (by omega) (by omega))) ?_
     exact Meet.of (cont h (by rw [if_neg q2];exact c))
 rw [Jz2b_eq]
 refine bindVO_mk (len_slc (by kernel_rfl)) ?_
 refine bindSO_mk b_gtr ?_
 by_cases h2:2 < l.length
 · rw [decide_eq_true (by omega)]
   refine g_tt ?_
   refine bindSO_mk (ia_slc _ (by kernel_rfl) (by omega) (by omega)) ?_
   refine bindVO_mk (ld_mk c.mW (by kernel_rfl) (wds_get (i:=2) h2)) ?_
   refine ⟨_,NameN i h,?_⟩
   refine bindSO_mk t_eql ?_
   refine Meet.of (cast_p (Gz2_eq _ _ _ _ _ _ _ _ _ _) ?_)
   refine bindVO_mk p_t ?_
   refine Meet.of (fin _ ?_)
   by_cases r:l.getD 2 []=nameOf i
   · rw [show (l.getD 2 [] == nameOf i)=true from beq_iff_eq.2 r,decide_eq_true ⟨h2,r⟩]
   · rw [show (l.getD 2 [] == nameOf i)=false from beq_eq_false_iff_ne.2 r,decide_eq_false (fun q=>r q.2)]
 · rw [decide_eq_false (by omega)]
   refine g_ft ?_
   refine Meet.of (cast_p (Gz2_eq _ _ _ _ _ _ _ _ _ _) ?_)
   refine bindVO_mk p_f ?_
   refine Meet.of (fin _ ?_)
   rw [decide_eq_false (fun q=>h2 q.1)]
theorem namesL:∀ (j i m:Nat) (e:Ev) (h:AH),i + j=8→j < m→EM h0 h p2 pW p5 l e→(∀ h',EM h0 h' p2 pW p5 l { e with ck:=ckL l i e.ck }→Jz2e Q x0 (evP p2) (wdV pW l) (evP p5) h')→Lz5u Q m x0 (evP p2) (wdV pW l) (evP p5) (.int .u8 i) h
 | j,i,0,e,h,hij,hm,_,_=>by omega
 | 0,i,m + 1,e,h,hij,hm,c,cont=>by
   obtain rfl:i=8:=by omega
   rw [Lz5u_eq]
   refine bindS_mk b_lss ?_
   rw [decide_eq_false (by omega)]
   refine i_f ?_
   refine Meet.of (cont h ?_)
   have:ckL l 8 e.ck=e.ck:=by unfold ckL;split <;> rfl
   rw [this];exact c
 | j + 1,i,m + 1,e,h,hij,hm,c,cont=>by
   rw [Lz5u_eq]
   refine bindS_mk b_lss ?_
   rw [decide_eq_true (by omega)]
   refine i_t ?_
   refine Meet.of (name113 (by omega) c fun h' c'=>?_)
   refine namesL j (i + 1) m _ h' (by omega) (by omega) c' fun h2 c2=>cont h2 ?_
   rw [ckL_step (by omega)]
   exact c2
end
end Go.Proofs.YtcglbpjpbjaecaaGreat.Sh
namespace Go.Proofs.YtcglbpjpbjaecaaGreat.Sh
open Go Go.Ab Go.RowKit
open Go.Proofs.YtcglbpjpbjaecaaGreat.Ru (Pg okP)
set_option maxRecDepth 10000
set_option linter.unusedSectionVars false
def evK (k:Nat):Ev:=⟨k,0,0,0,0,0,0,[],[]⟩
theorem fin113 (e:Ev) (ok:e.ok) (hkl:e.keep.length≤300000) (s:List UInt8) {h0 h:AH} {n2 n4:Nat} {k:V} (hw:∃ w,h.m n2=some (.cells true (.one 73) w)) (hm:h.m n4=some (.cells true (.one 73) (evV e k))) (hk:KeepB h k e.keep)
   (h2:h0.next≤n2∧n2 < h.next) (fr:∀ n,n < h0.next→h.m n=h0.m n) :
   Jz2m (EventEnd e s h0) (.str s) (evP n2) (evP n4) h:=by
 obtain ⟨w,hw⟩:=hw
 obtain ⟨a,rfl⟩:=hk.shape
 rw [Jz2m_eq]
 refine bindV_mk (ld_mk (p:=[]) hm (by kernel_rfl) rfl) ?_
 refine callS (lineRP e ok hk hkl) ?_
 refine bindS_mk (show aExtract _ _=some _ from rfl) ?_
 refine bindS_mk (show aExtract _ _=some _ from rfl) ?_
 refine bindV_mk (ld_mk (p:=[]) hm (by kernel_rfl) rfl) ?_
 have shE:hasShape Pg (evV e (.slc a e.keep.length)) 73=true:=s73 e a _
 have fin:∀ b:V,b=.bool (decide (e.fine∧e.txt=s))→bindV (aStoreV Pg h 73 (evP n2) (evV e (.slc a e.keep.length))) (fun _ h186=>Meet (Jz2n (EventEnd e s h0) (evP n2) b h186)):=by
   intro b hb
   refine bindE (st_at (p:=[]) hw (by kernel_rfl) rfl shE (v':=evV e (.slc a e.keep.length)) rfl) fun h1 u1=>?_
   refine Meet.of (cast_p (Jz2n_eq _ _ _ _) ?_)
   have e1:=ld_mk (P:=Pg) (t:=73) (p:=[]) u1.at_ (by kernel_rfl) (w:=evV e (.slc a e.keep.length)) rfl
   simp only [aLoadV] at e1
   have e2:=(still_some e1).1
   refine bindR_mk (show aRes Pg _ _ R113=some [evV e (.slc a e.keep.length),b] by simp only [R113,aRes,Env.get,if_true,e2];rfl) ?_
   subst hb
   refine ⟨_,rfl,hk.keepT (by rw [u1.next];omega) (fun n xs q1 q2=>u1.other n fun q=>by rw [q,hw] at q2;cases q2),by rw [u1.next];omega,fun n q=>(u1.other n (by omega)).trans (fr n q)⟩
 by_cases hf:e.fine
 · rw [if_pos (fine_pre hf),decide_eq_true hf]
   refine g_tt ?_
   refine bindS_mk t_eql ?_
   refine Meet.of (cast_p (Gz7_eq _ _ _ _ _ _) ?_)
   refine bindV_mk p_t ?_
   refine fin _ ?_
   congr 1
   by_cases q:e.txt=s <;> simp [q,hf]
 · rw [decide_eq_false hf]
   refine g_ft ?_
   refine Meet.of (cast_p (Gz7_eq _ _ _ _ _ _) ?_)
   refine bindV_mk p_f ?_
   refine fin _ ?_
   congr 1
   simp [hf]
structure BR (h0 h:AH) (p2 pW p5:Nat) (l:List (List UInt8)) (k:V) (bl:List Bool):Prop where
 m2:∃ w,h.m p2=some (.cells true (.one 73) w)
 mW:h.m pW=some (.cells true (.row 9) (.agg (l.map .str)))
 m5:h.m p5=some (.cells true (.one 73) (evV e5 k))
 row:RowB 4 h k (boolsV bl)
 y:Young 4 h0.next k
 o:h0.next≤p2∧p2 < pW∧pW < p5∧p5 < h.next
 fr:∀ n,n < h0.next→h.m n=h0.m n
theorem row_ne' {h:AH} {e t n:Nat} {k w:V} {xs:List V} {own:Bool} (b:RowB e h k xs) (ht:e≠t) (hn:h.m n=some (.cells own (.row t) w)):∀ len,k≠.slc (some (⟨n,.row e,[]⟩,0)) len:=fun len q=>by
 rcases b with ⟨rfl,_⟩ | ⟨n',g1,rfl,g3⟩
 · cases q
 · simp only [V.slc.injEq,Option.some.injEq,Prod.mk.injEq,PA.mk.injEq] at q
   rw [q.1.1.1,hn] at g3
   simp only [Option.some.injEq,AO.cells.injEq,BTy.row.injEq] at g3
   exact ht g3.2.1.symm
section
variable {h0:AH} {p2 pW p5:Nat} {Q:AEnd→AH→Prop} {x0:V} {l:List (List UInt8)}
theorem bool113 {h:AH} {k:V} {i m:Nat} (hl:1 < l.length) (hi:i < (l.getD 1 []).length) (hr:(l.getD 1 []).length≤200000) (b:BR h0 h p2 pW p5 l k (((l.getD 1 []).take i).map fun b=>b == 49))
   (cont:∀ k' h',BR h0 h' p2 pW p5 l k' (((l.getD 1 []).take (i + 1)).map fun b=>b == 49)→Lz5v Q m x0 (evP p2) (wdV pW l) (evP p5) (.int .i64 ((i + 1:Nat):Int)) h') :
   Jz2k Q m x0 (evP p2) (wdV pW l) (evP p5) (.int .i64 i) h:=by
 obtain ⟨⟨w2,m2⟩,mW,m5,row,y,⟨o1,o2,o3,o4⟩,fr⟩:=b
 obtain ⟨b,hb⟩:∃ b,(l.getD 1 [])[i]?=some b:=⟨(l.getD 1 [])[i]'hi,List.getElem?_eq_getElem hi⟩
 rw [Jz2k_eq]
 refine bindSO_mk (fa_mk (by kernel_rfl)) ?_
 refine bindVO_mk (ld_mk m5 (by kernel_rfl) (w:=k) rfl) ?_
 refine bindSO_mk (ia_slc _ (by kernel_rfl) (by omega) (by omega)) ?_
 refine bindVO_mk (ld_mk mW (by kernel_rfl) (wds_get (i:=1) hl)) ?_
 refine bindSO_mk (ixS (b:=b) (by kernel_rfl) (by omega) (by rw [show ((i:Nat):Int).toNat=i by omega];exact hb)) ?_
 refine bindSO_mk b_eql ?_
 rw [eq49]
 refine bindE (bs1_at (e:=4) (by kernel_rfl) (show zeroV Pg 4=some (.bool false) by kernel_rfl) (show hasShape Pg (.bool (b == 49)) 4=true by kernel_rfl)) fun h1 u1=>?_
 have n1:=u1.next
 have m51:=(u1.other _ (by omega)).trans m5
 have m21:=(u1.other _ (by omega)).trans m2
 have mW1:=(u1.other _ (by omega)).trans mW
 have fr1:∀ n,n < h0.next→h1.m n=h0.m n:=fun n q=>(u1.other _ (by omega)).trans (fr n q)
 refine ⟨ld_mk m51 (by kernel_rfl) (w:=k) rfl,?_⟩
 have row1:RowB 4 h1 k (boolsV (((l.getD 1 []).take i).map fun b=>b == 49)):=by
   rcases row with ⟨rfl,q⟩ | ⟨n,q1,rfl,q3⟩
   · exact .inl ⟨rfl,q⟩
   · exact .inr ⟨n,by omega,rfl,(u1.other n (by omega)).trans q3⟩
 obtain ⟨k',h2,e2,row2,n2,f2,y2⟩:=row1.app ap71 (elems_row (by exact u1.at_)) (by simp) (by rw [by4,boolsV_len];simp;omega)
 refine bindV_mk e2 ?_
 refine bindSO_mk (fa_mk (by kernel_rfl)) ?_
 have m52:=(f2 p5 (by omega) (row_ne row1 m51)).trans m51
 have m22:=(f2 p2 (by omega) (row_ne row1 m21)).trans m21
 have mW2:=(f2 pW (by omega) (row_ne' row1 (by decide) mW1)).trans mW1
 obtain ⟨a',l',rfl⟩:=row_sh row2
 refine bindE (st_at m52 (by kernel_rfl) (w:=k) rfl (show hasShape Pg (.slc a' l') 71=true by kernel_rfl) (v':=evV e5 (.slc a' l')) rfl) fun h3 u3=>?_
 have n3:=u3.next
 refine Meet.of (cast_p (Jz2l_eq _ _ _ _ _ _ _ _) ?_)
 refine bindS_mk (w_add (wrap_i64 (by omega) (by omega))) ?_
 refine Meet.of (cont _ h3 ⟨⟨w2,(u3.other _ (by omega)).trans m22⟩,(u3.other _ (by omega)).trans mW2,u3.at_,?_,?_,⟨o1,o2,o3,by omega⟩,fun n q=>(u3.other n (by omega)).trans ((f2 n (by omega) (y n q)).trans (fr1 n q))⟩)
 · rw [take_succ' hb,List.map_append]
   have:boolsV (((l.getD 1 []).take i).map (fun b=>b == 49)++[b].map fun b=>b == 49)=boolsV (((l.getD 1 []).take i).map fun b=>b == 49)++[.bool (b == 49)]:=by simp [boolsV]
   rw [this]
   rcases row2 with ⟨q1,q2⟩ | ⟨n,q1,q2,q3⟩
   · simp at q2
   · refine .inr ⟨n,by omega,q2,(u3.other n fun q=>?_).trans q3⟩
     rw [q,m52] at q3;cases q3
 · exact fun n q len=>y2 n (by omega) len
theorem boolsRL (hl:1 < l.length) (hr:(l.getD 1 []).length≤200000):∀ (j i m:Nat) (k:V) (h:AH),i + j=(l.getD 1 []).length→j < m→BR h0 h p2 pW p5 l k (((l.getD 1 []).take i).map fun b=>b == 49) →
   (∀ k' h',BR h0 h' p2 pW p5 l k' ((l.getD 1 []).map fun b=>b == 49)→Jz2m Q x0 (evP p2) (evP p5) h')→Lz5v Q m x0 (evP p2) (wdV pW l) (evP p5) (.int .i64 i) h
 | j,i,0,k,h,hij,hm,_,_=>by omega
 | 0,i,m + 1,k,h,hij,hm,b,cont=>by
   obtain rfl:i=(l.getD 1 []).length:=by omega
   rw [List.take_length] at b
   rw [Lz5v_eq]
   refine bindS_mk (ia_slc _ (by kernel_rfl) (by omega) (by omega)) ?_
   refine bindV_mk (ld_mk b.mW (by kernel_rfl) (wds_get (i:=1) hl)) ?_
   refine bindV_mk (len_str (by kernel_rfl)) ?_
   refine bindS_mk b_lss ?_
   rw [decide_eq_false (by omega)]
   refine i_f ?_
   exact Meet.of (cont k h b)
 | j + 1,i,m + 1,k,h,hij,hm,b,cont=>by
   rw [Lz5v_eq]
   refine bindS_mk (ia_slc _ (by kernel_rfl) (by omega) (by omega)) ?_
   refine bindV_mk (ld_mk b.mW (by kernel_rfl) (wds_get (i:=1) hl)) ?_
   refine bindV_mk (len_str (by kernel_rfl)) ?_
   refine bindS_mk b_lss ?_
   rw [decide_eq_true (by omega)]
   refine i_t ?_
   exact Meet.of (bool113 hl (by omega) hr b fun k' h' b'=>boolsRL hl hr j (i + 1) m k' h' (by omega) (by omega) b' cont)
end
theorem composeR (a:Int) (c t p:Nat) (o:Int) (b:List UInt8) (e1 e2 e3 e4:Ev) (h1:e1=⟨0,a,0,c,0,0,0,[],[]⟩) (h2:e2=if 1≤e1.ck∧e1.ck≤4 then { e1 with txn:=t } else e1) (h3:e3=if e2.ck=1∨e2.ck=2 then { e2 with page:=p } else e2) (h4:e4=if e3.ck=2 then { e3 with off:=o,s:=b } else e3) :
   e4=⟨0,a,0,c,if 1≤c∧c≤4 then t else 0,if c=1∨c=2 then p else 0,if c=2 then o else 0,if c=2 then b else [],[]⟩:=by
 subst h1
 have k1:e2=⟨0,a,0,c,if 1≤c∧c≤4 then t else 0,0,0,[],[]⟩:=by rw [h2];by_cases q:1≤c∧c≤4 <;> simp [q]
 subst k1
 have k2:e3=⟨0,a,0,c,if 1≤c∧c≤4 then t else 0,if c=1∨c=2 then p else 0,0,[],[]⟩:=by rw [h3];by_cases q:c=1∨c=2 <;> simp [q]
 subst k2
 rw [h4]
 by_cases q:c=2 <;> simp [q]
theorem evR0 {s:List UInt8} (h:kindL ((wdsT s).getD 0 []) kindNames 0 99=0):evR s=⟨0,valT (wdsT s) 1,0,ckT (wdsT s),if 1≤ckT (wdsT s)∧ckT (wdsT s)≤4 then (valT (wdsT s) 3 % 18446744073709551616).toNat else 0,if ckT (wdsT s)=1∨ckT (wdsT s)=2 then (valT (wdsT s) 4 % 65536).toNat else 0,if ckT (wdsT s)=2 then valT (wdsT s) 5 else 0,if ckT (wdsT s)=2 then bytT (wdsT s) 6 else [],[]⟩:=by
 unfold evR
 simp only []
 rw [if_pos h]
theorem evR5 {s:List UInt8} (h:kindL ((wdsT s).getD 0 []) kindNames 0 99=5):evR s={ ev0 with kind:=5,keep:=if 1 < (wdsT s).length∧(wdsT s).getD 1 []≠[45] then ((wdsT s).getD 1 []).map (fun b=>b == 49) else [] }:=by
 unfold evR
 simp only []
 rw [if_neg (by omega),if_pos h]
theorem evRn {s:List UInt8} (h:kindL ((wdsT s).getD 0 []) kindNames 0 99≠0) (h5:kindL ((wdsT s).getD 0 []) kindNames 0 99≠5):evR s={ ev0 with kind:=kindL ((wdsT s).getD 0 []) kindNames 0 99,a:=valT (wdsT s) 1 }:=by
 unfold evR
 simp only []
 rw [if_neg h,if_neg h5]
section
variable {h0 h:AH} {p2 pW p5 m:Nat} {s:List UInt8}
theorem end113 (hs:s.length≤200000) (c:EM h0 h p2 pW p5 (wdsT s) (evR s)) (hk:(evR s).keep=[]):Jz2m (EventEnd (evR s) s h0) (.str s) (evP p2) (evP p5) h :=
 fin113 (evR s) (evR_ok s hs) (by rw [hk];exact Nat.zero_le _) s c.m2 c.m5 (.inl ⟨rfl,hk⟩) (by have:=c.o;omega) c.fr
theorem disp113 (hs:s.length≤200000) {kd:Nat} (hkd:kindL ((wdsT s).getD 0 []) kindNames 0 99=kd) (c:EM h0 h p2 pW p5 (wdsT s) (evK kd)):Jz2a (EventEnd (evR s) s h0) (.str s) (evP p2) (wdV pW (wdsT s)) (evP p5) h:=by
 have hw:∀ w∈wdsT s,w.length≤200000:=fun w q=>by have:=wds_len q;omega
 have hkl:=kindR_lt ((wdsT s).getD 0 [])
 rw [Jz2a_eq]
 refine bindS_mk (fa_mk (by kernel_rfl)) ?_
 refine bindV_mk (ld_mk c.m5 (by kernel_rfl) (w:=.int .u8 kd) rfl) ?_
 refine bindS_mk b_eql ?_
 refine i_split (fun q=>?_) (fun q=>?_)
 · replace q:=eq_of_beq q
   obtain rfl:kd=0:=by omega
   refine callS (valueRP c.wds 1 (by omega) hw) ?_
   refine bindS_mk (fa_mk (by kernel_rfl)) ?_
   refine bindE (st_at c.m5 (by kernel_rfl) (w:=.int .i64 0) rfl (by kernel_rfl) (v':=evV ⟨0,valT (wdsT s) 1,0,0,0,0,0,[],[]⟩ (.slc none 0)) rfl) fun h1 u1=>?_
   have c1:=c.set u1
   refine bindS_mk (fa_mk (by kernel_rfl)) ?_
   refine bindS_mk (fa_mk (by kernel_rfl)) ?_
   refine bindE (st_at c1.m5 (by kernel_rfl) (w:=.int .u8 0) rfl (by kernel_rfl) (v':=evV ⟨0,valT (wdsT s) 1,0,99,0,0,0,[],[]⟩ (.slc none 0)) rfl) fun h2 u2=>?_
   have c2:=c1.set u2
   have key:=fun k=>namesL (Q:=EventEnd (evR s) s h0) (x0:=.str s) 8 0 9 _ _ (by omega) (by omega) c2 k
   refine ⟨9,Meet.of (key fun h3 c3=>?_)⟩
   refine txn113 c3 hw fun h4 c4=>?_
   refine page113 c4 hw fun h5 c5=>?_
   refine off113 c5 hw fun h6 c6=>?_
   have e1:=composeR (valT (wdsT s) 1) (ckT (wdsT s)) (valT (wdsT s) 3 % 18446744073709551616).toNat (valT (wdsT s) 4 % 65536).toNat (valT (wdsT s) 5) (bytT (wdsT s) 6) _ _ _ _ rfl rfl rfl rfl
   rw [← evR0 hkd] at e1
   refine end113 (pW:=pW) hs ?_ (by rw [evR0 hkd])
   rw [← e1]
   exact c6
 · replace q:=ne_of_beq_false q
   have k0:kd≠0:=by omega
   have fin:∀ b:Bool,b=decide (kd=5∧1 < (wdsT s).length∧(wdsT s).getD 1 []≠[45])→Jz2j (EventEnd (evR s) s h0) (.str s) (evP p2) (wdV pW (wdsT s)) (evP p5) (.bool b) h:=by
     intro b hb
     rw [Jz2j_eq]
     refine i_split (fun q=>?_) (fun q=>?_)
     · rw [q] at hb
       obtain ⟨q1,q2,q3⟩:=of_decide_eq_true hb.symm
       subst q1
       have e1:=evR5 hkd
       rw [if_pos ⟨q2,q3⟩] at e1
       have hwl:((wdsT s).getD 1 []).length≤200000:=Nat.le_trans word_len hs
       have key:=fun k=>boolsRL (Q:=EventEnd (evR s) s h0) (x0:=.str s) (l:=wdsT s) (h0:=h0) (p2:=p2) (pW:=pW) (p5:=p5) q2 hwl ((wdsT s).getD 1 []).length 0 (((wdsT s).getD 1 []).length + 1) (.slc none 0) h (by omega) (by omega) ⟨c.m2,c.mW,c.m5,.inl ⟨rfl,rfl⟩,(fun k _ len q=>by cases q),c.o,c.fr⟩ k
       refine ⟨_,Meet.of (key fun k' h' b'=>?_)⟩
       have hkb:=keepB_row b'.row
       refine fin113 (evR s) (evR_ok s hs) ?_ s b'.m2 (k:=k') ?_ (by rw [e1];exact hkb) (by have:=b'.o;omega) b'.fr
       · have:=evR_keep s;omega
       · rw [e1];exact b'.m5
     · rw [q] at hb
       have q1:=of_decide_eq_false hb.symm
       refine bindS_mk (fa_mk (by kernel_rfl)) ?_
       refine bindV_mk (ld_mk c.m5 (by kernel_rfl) (w:=.int .u8 kd) rfl) ?_
       refine bindS_mk b_neq ?_
       refine i_split (fun r=>?_) (fun r=>?_)
       · replace r:=ne_of_bne r
         have k5:kd≠5:=by omega
         have e1:=evRn (s:=s) (by omega) (by omega)
         refine callS (valueRP c.wds 1 (by omega) hw) ?_
         refine bindS_mk (fa_mk (by kernel_rfl)) ?_
         refine bindE (st_at c.m5 (by kernel_rfl) (w:=.int .i64 0) rfl (by kernel_rfl) (v':=evV ⟨kd,valT (wdsT s) 1,0,0,0,0,0,[],[]⟩ (.slc none 0)) rfl) fun h1 u1=>?_
         have c1:=c.set u1
         refine Meet.of (end113 (pW:=pW) hs ?_ (by rw [e1];rfl))
         rw [e1,hkd];exact c1
       · replace r:=eq_of_bne_false r
         obtain rfl:kd=5:=by omega
         have e1:=evR5 hkd
         rw [if_neg (fun q=>q1 ⟨rfl,q⟩)] at e1
         refine Meet.of (end113 (pW:=pW) hs ?_ (by rw [e1]))
         rw [e1];exact c
   refine bindS_mk (fa_mk (by kernel_rfl)) ?_
   refine bindV_mk (ld_mk c.m5 (by kernel_rfl) (w:=.int .u8 kd) rfl) ?_
   refine bindS_mk b_eql ?_
   by_cases k5:kd=5
   · rw [show ((kd:Int) == 5)=true from beq_iff_eq.2 (by omega)]
     refine g_tt ?_
     refine bindV_mk (len_slc (by kernel_rfl)) ?_
     refine bindS_mk b_gtr ?_
     refine Meet.of (cast_p (Gz5_eq _ _ _ _ _ _ _ _) ?_)
     refine bindV_mk p_t ?_
     by_cases hl:1 < (wdsT s).length
     · rw [decide_eq_true (by omega)]
       refine g_tt ?_
       refine bindS_mk (ia_slc _ (by kernel_rfl) (by omega) (by omega)) ?_
       refine bindV_mk (ld_mk c.mW (by kernel_rfl) (wds_get (i:=1) hl)) ?_
       refine bindS_mk t_neq ?_
       refine Meet.of (cast_p (Gz6_eq _ _ _ _ _ _ _ _) ?_)
       refine bindV_mk p_t ?_
       refine Meet.of (fin _ ?_)
       by_cases h45:(wdsT s).getD 1 []=[45]
       · rw [show ((wdsT s).getD 1 [] == [45])=true from beq_iff_eq.2 h45,decide_eq_false (fun q=>q.2.2 h45)];rfl
       · rw [show ((wdsT s).getD 1 [] == [45])=false from beq_eq_false_iff_ne.2 h45,decide_eq_true ⟨k5,hl,h45⟩];rfl
     · rw [decide_eq_false (by omega)]
       refine g_ft ?_
       refine Meet.of (cast_p (Gz6_eq _ _ _ _ _ _ _ _) ?_)
       refine bindV_mk p_f ?_
       refine Meet.of (fin _ ?_)
       rw [decide_eq_false (fun q=>hl q.2.1)]
   · rw [show ((kd:Int) == 5)=false from beq_eq_false_iff_ne.2 (by omega)]
     refine g_ft ?_
     refine Meet.of (cast_p (Gz5_eq _ _ _ _ _ _ _ _) ?_)
     refine bindV_mk p_f ?_
     refine g_ft ?_
     refine Meet.of (cast_p (Gz6_eq _ _ _ _ _ _ _ _) ?_)
     refine bindV_mk p_f ?_
     refine Meet.of (fin _ ?_)
     rw [decide_eq_false (fun q=>k5 q.1)]
theorem kind113 {Q:AEnd→AH→Prop} {x0:V} {l:List (List UInt8)} {pK i kd:Nat} (hl:0 < l.length) (hi:i < 7) (c:EM h0 h p2 pW p5 l (evK kd)) (mK:h.m pK=some (.cells true (.row 9) (.agg (kindNames.map V.str)))) (o:p5 < pK∧pK < h.next)
   (cont:∀ h',EM h0 h' p2 pW p5 l (evK (if kindName i=l.getD 0 [] then i else kd))→h'.m pK=some (.cells true (.row 9) (.agg (kindNames.map V.str)))→pK < h'.next→Lz5t Q m x0 (evP p2) (wdV pW l) (evP p5) (.slc (some (⟨pK,.row 9,[]⟩,0)) 7) (.int .i64 7) (.int .i64 ((i + 1:Nat):Int)) h') :
   Jz28 Q m x0 (evP p2) (wdV pW l) (evP p5) (.slc (some (⟨pK,.row 9,[]⟩,0)) 7) (.int .i64 7) (.int .i64 i) h:=by
 rw [Jz28_eq]
 refine bindS_mk (ia_slc _ (by kernel_rfl) (by omega) (by omega)) ?_
 refine bindV_mk (ld_mk mK (by kernel_rfl) (getKind hi)) ?_
 refine bindS_mk (ia_slc _ (by kernel_rfl) (by omega) (by omega)) ?_
 refine bindV_mk (ld_mk c.mW (by kernel_rfl) (wds_get (i:=0) hl)) ?_
 refine bindS_mk t_eql ?_
 refine i_split (fun q=>?_) (fun q=>?_)
 · replace q:=eq_of_beq q
   refine bindS_mk (cv_wr (d:=5) (k:=.u8) (by kernel_rfl) (wr_u8 (by omega) (by omega))) ?_
   refine bindS_mk (fa_mk (by kernel_rfl)) ?_
   refine bindE (st_at c.m5 (by kernel_rfl) (w:=.int .u8 kd) rfl (by kernel_rfl) (v':=evV (evK i) (.slc none 0)) rfl) fun h1 u1=>?_
   have n1:=u1.next
   refine Meet.of (cast_p (Jz29_eq _ _ _ _ _ _ _ _ _ _) ?_)
   refine bindS_mk (w_add (wrap_i64 (by omega) (by omega))) ?_
   exact Meet.of (cont h1 (by rw [if_pos q.symm];exact c.set u1) ((u1.other _ (by omega)).trans mK) (by omega))
 · replace q:=ne_of_beq_false q
   refine Meet.of (cast_p (Jz29_eq _ _ _ _ _ _ _ _ _ _) ?_)
   refine bindS_mk (w_add (wrap_i64 (by omega) (by omega))) ?_
   exact Meet.of (cont h (by rw [if_neg (fun r=>q r.symm)];exact c) mK o.2)
theorem kindsRL {Q:AEnd→AH→Prop} {x0:V} {l:List (List UInt8)} {pK:Nat} (hl:0 < l.length) (hp:p5 < pK):∀ (j i kd m:Nat) (h:AH),i + j=7→j < m→EM h0 h p2 pW p5 l (evK kd)→h.m pK=some (.cells true (.row 9) (.agg (kindNames.map V.str)))→pK < h.next →
   (∀ h',EM h0 h' p2 pW p5 l (evK (kindL (l.getD 0 []) (kindNames.drop i) i kd))→Jz2a Q x0 (evP p2) (wdV pW l) (evP p5) h')→Lz5t Q m x0 (evP p2) (wdV pW l) (evP p5) (.slc (some (⟨pK,.row 9,[]⟩,0)) 7) (.int .i64 7) (.int .i64 i) h
 | j,i,kd,0,h,hij,hm,_,_,_,_=>by omega
 | 0,i,kd,m + 1,h,hij,hm,c,mK,o,cont=>by
   obtain rfl:i=7:=by omega
   rw [Lz5t_eq]
   refine bindS_mk b_lss ?_
   rw [decide_eq_false (by omega)]
   refine i_f ?_
   exact Meet.of (cont h c)
 | j + 1,i,kd,m + 1,h,hij,hm,c,mK,o,cont=>by
   rw [Lz5t_eq]
   refine bindS_mk b_lss ?_
   rw [decide_eq_true (by omega)]
   refine i_t ?_
   have hd:=kindDrop (i:=i) (by omega)
   refine Meet.of (kind113 hl (by omega) c mK ⟨hp,o⟩ fun h' c' mK' o'=>?_)
   refine kindsRL hl hp j (i + 1) _ m h' (by omega) (by omega) c' mK' o' fun h2 c2=>cont h2 ?_
   rw [hd,kindL];exact c2
end
theorem evK99:aBuild Pg 73 [(0,.int .u8 99)]=some (evV (evK 99) (.slc none 0)):=by kernel_rfl
theorem eventRP (s:List UInt8) (hs:s.length≤200000) (h0:AH):ACalls Pg 113 [.str s] h0 (EventEnd (evR s) s h0):=by
 refine C113 _ _ _ ?_
 obtain ⟨z,hz1,hz2⟩:=zn73
 refine bindE (al_at hz1 hz2) fun h1 u1=>?_
 have n1:=u1.next
 refine callE2 (wordsRP s hs h1) ?_
 rintro e h2 ⟨y,rfl,⟨pW,w1,w2,rfl,w4⟩,n2,f2⟩
 refine ⟨_,rfl,?_⟩
 refine bindS_mk evK99 ?_
 refine bindE (al_at hz1 hz2) fun h3 u3=>?_
 have n3:=u3.next
 refine bindE (st_at (p:=[]) u3.at_ (by kernel_rfl) rfl (s73 (evK 99) none 0) (v':=evV (evK 99) (.slc none 0)) rfl) fun h4 u4=>?_
 have n4:=u4.next
 refine bindE (bs_at (e:=9) (l:=kindNames.map V.str) (by kernel_rfl) zz9 (by kernel_rfl)) fun h5 u5=>?_
 have n5:=u5.next
 refine bindV_mk (len_slc (by kernel_rfl)) ?_
 have f4:∀ n,n < h2.next→h4.m n=h2.m n:=fun n q=>(u4.other _ (by omega)).trans (u3.other _ (by omega))
 have c:EM h0 h5 h0.next pW h2.next (wdsT s) (evK 99):=by
   refine ⟨⟨z,(u5.other _ (by omega)).trans ((f4 _ (by omega)).trans ((f2 _ (by omega)).trans u1.at_))⟩,(u5.other _ (by omega)).trans ((f4 _ (by omega)).trans w4),(u5.other _ (by omega)).trans u4.at_,⟨Nat.le_refl _,by omega,by omega,by omega⟩,fun n q=>?_⟩
   exact (u5.other _ (by omega)).trans ((f4 _ (by omega)).trans ((f2 _ (by omega)).trans (u1.other _ (by omega))))
 have key:=fun k=>kindsRL (Q:=EventEnd (evR s) s h0) (x0:=.str s) (pK:=h4.next) (l:=wdsT s) (wdsL_pos s []) (by omega) 7 0 99 8 h5 (by omega) (by omega) c u5.at_ (by omega) k
 exact ⟨8,Meet.of (key fun h' c'=>disp113 hs rfl c')⟩
end Go.Proofs.YtcglbpjpbjaecaaGreat.Sh
namespace Go.Proofs.YtcglbpjpbjaecaaGreat.Sh
open Go Go.Ab Go.RowKit
open Go.Proofs.YtcglbpjpbjaecaaGreat.Ru (Pg okP)
set_option maxRecDepth 10000
set_option linter.unusedSectionVars false
section
variable {r:List Ev × Nat × Nat} {h0:AH} {s:List UInt8}
def seg (s:List UInt8) (a i:Nat):List UInt8:=(s.drop a).take (i - a)
theorem seg_snoc {a i:Nat} {c:UInt8} (ha:a≤i) (hc:s[i]?=some c):seg s a i++[c]=seg s a (i + 1):=by
 unfold seg
 have:(s.drop a)[i - a]?=some c:=by rw [List.getElem?_drop,show a + (i - a)=i by omega];exact hc
 rw [show i + 1 - a=(i - a) + 1 by omega,List.take_add_one,this];rfl
theorem seg_nil (a:Nat):seg s a a=[]:=by unfold seg;simp
theorem seg_len {a i:Nat} (h:i≤s.length) (ha:a≤i):(seg s a i).length=i - a:=by unfold seg;simp;omega
theorem line44 (hs:s.length≤131072) {y:V} {h:AH} {out:List Ev} {n m a i:Nat} (ha:a≤i) (hi:i < s.length) (hn:n≤2000) (ho:out.length≤n) (p:PM h0 h y out) (hr:r=prsL evR n (seg s a i :: (lnsL [] (s.drop (i + 1))).1) (lnsL [] (s.drop (i + 1))).2 out)
   (cont:∀ y' h',n + 1≤2000→PM h0 h' y' (out++[evR (seg s a i)])→r=prsL evR (n + 1) (lnsL [] (s.drop (i + 1))).1 (lnsL [] (s.drop (i + 1))).2 (out++[evR (seg s a i)])→Lz6c (ParseEnd r h0) m (.str s) y' (.int .i64 ((i + 1:Nat):Int)) (.int .i64 ((n + 1:Nat):Int)) (.int .i64 ((i + 1:Nat):Int)) h') :
   Jz59 (ParseEnd r h0) m (.str s) y (.int .i64 a) (.int .i64 n) (.int .i64 i) h:=by
 have hsl:=seg_len (s:=s) (a:=a) (i:=i) (by omega) ha
 rw [prsL] at hr
 rw [Jz59_eq]
 refine bindS_mk (w_add (wrap_i64 (by omega) (by omega))) ?_
 refine bindS_mk b_gtr ?_
 refine i_split (fun c=>?_) (fun c=>?_)
 · replace c:=of_decide_eq_true c
   rw [if_pos (by omega)] at hr
   rw [hr]
   exact ⟨_,rfl,.inl ⟨rfl,rfl⟩,p.nx,p.fr⟩
 · replace c:=of_decide_eq_false c
   rw [if_neg (by omega)] at hr
   refine Meet.of (cast_p (Jz5a_eq _ _ _ _ _ _ _ _) ?_)
   refine bindS_mk (sl_str (l:=a) (k:=i) (by kernel_rfl) (by rw [bnd_i (by omega)];simp) (by rw [bnd_i (by omega)];simp) ha (by omega)) ?_
   refine callE2 (eventRP (seg s a i) (by omega) h) ?_
   rintro e h1 ⟨k,rfl,hk,n1,f1⟩
   refine ⟨_,rfl,?_⟩
   refine bindS_mk (show aExtract _ _=some _ from rfl) ?_
   refine bindS_mk (show aExtract _ _=some _ from rfl) ?_
   obtain ⟨b,rfl⟩:=hk.shape
   obtain ⟨z,hz1,hz2⟩:=zn73
   refine bindE (al_at hz1 hz2) fun h2 u2=>?_
   have n2:=u2.next
   refine bindE (st_at (p:=[]) u2.at_ (by kernel_rfl) rfl (s73 _ b _) rfl) fun h3 u3=>?_
   have n3:=u3.next
   have f3:∀ n,n < h1.next→h3.m n=h1.m n:=fun n q=>(u3.other n (by omega)).trans (u2.other n (by omega))
   have p1:=p.keep n1 f1
   have p3:=p1.keep (h':=h3) (by omega) f3
   have hk3:=hk.keep (h':=h3) (by omega) f3
   refine bindS_mk u_not ?_
   by_cases ok:lnOk evR (seg s a i)
   · rw [if_pos ok] at hr
     rw [show (!decide ((evR (seg s a i)).fine∧(evR (seg s a i)).txt=seg s a i))=false by rw [decide_eq_true (show _∧_ from ok)];rfl]
     refine i_f ?_
     refine Meet.of (cast_p (Jz5b_eq _ _ _ _ _ _ _ _) ?_)
     refine bindV_mk (ld_mk u3.at_ (by kernel_rfl) rfl) ?_
     refine bindE (bs1_at (e:=73) (by kernel_rfl) hz1 (s73 (evR (seg s a i)) b _)) fun h4 u4=>?_
     obtain ⟨y',h5,e5,p5⟩:=p3.app hk3 u4 (by omega)
     refine bindV_mk e5 ?_
     refine bindS_mk (w_add (wrap_i64 (by omega) (by omega))) ?_
     refine Meet.of (cast_p (Jz5c_eq _ _ _ _ _ _ _ _) ?_)
     refine bindS_mk (w_add (wrap_i64 (by omega) (by omega))) ?_
     exact Meet.of (cont y' h5 (by omega) p5 hr)
   · rw [if_neg ok] at hr
     rw [show (!decide ((evR (seg s a i)).fine∧(evR (seg s a i)).txt=seg s a i))=true by rw [decide_eq_false (show ¬ (_∧_) from ok)];rfl]
     refine i_t ?_
     rw [hr]
     exact ⟨_,rfl,.inl ⟨rfl,rfl⟩,p3.nx,p3.fr⟩
theorem loop44 (hs:s.length≤131072):∀ (j i m n a:Nat) (y:V) (h:AH) (out:List Ev),i + j=s.length→j < m→a≤i→n≤2000→out.length≤n→PM h0 h y out→r=prsL evR n (lnsL (seg s a i) (s.drop i)).1 (lnsL (seg s a i) (s.drop i)).2 out→Lz6c (ParseEnd r h0) m (.str s) y (.int .i64 a) (.int .i64 n) (.int .i64 i) h
 | j,i,0,n,a,y,h,out,hij,hm,_,_,_,_,_=>by omega
 | 0,i,m + 1,n,a,y,h,out,hij,hm,ha,hn,ho,p,hr=>by
   obtain rfl:i=s.length:=by omega
   rw [List.drop_length] at hr
   rw [Lz6c_eq]
   refine bindV_mk (len_str (by kernel_rfl)) ?_
   refine bindS_mk b_lss ?_
   rw [decide_eq_false (by omega)]
   refine i_f ?_
   refine Meet.of (cast_p (Jz5d_eq _ _ _ _ _ _) ?_)
   refine bindV_mk (len_str (by kernel_rfl)) ?_
   refine bindS_mk b_lss ?_
   have hsl:=seg_len (s:=s) (a:=a) (i:=s.length) (Nat.le_refl _) ha
   rw [lnsL,prsL] at hr
   refine i_split (fun c=>?_) (fun c=>?_)
   · replace c:=of_decide_eq_true c
     have hne:seg s a s.length≠[]:=fun q=>by rw [q] at hsl;simp at hsl;omega
     rw [if_neg hne] at hr
     refine bindS_mk b_eql ?_
     refine i_split (fun d=>?_) (fun d=>?_)
     · replace d:=eq_of_beq d
       rw [if_pos (by omega)] at hr
       refine bindS_mk (w_add (wrap_i64 (by omega) (by omega))) ?_
       rw [hr]
       exact ⟨_,rfl,.inl ⟨rfl,rfl⟩,p.nx,p.fr⟩
     · replace d:=ne_of_beq_false d
       rw [if_neg (by omega)] at hr
       refine Meet.of (cast_p (Jz5e_eq _ _ _) ?_)
       refine bindS_mk (w_add (wrap_i64 (by omega) (by omega))) ?_
       rw [hr]
       exact ⟨_,rfl,.inl ⟨rfl,rfl⟩,p.nx,p.fr⟩
   · replace c:=of_decide_eq_false c
     have hne:seg s a s.length=[]:=List.length_eq_zero_iff.1 (by omega)
     rw [if_pos hne] at hr
     refine Meet.of (cast_p (Jz5f_eq _ _ _) ?_)
     rw [hr]
     exact ⟨y,rfl,p.scr,p.nx,p.fr⟩
 | j + 1,i,m + 1,n,a,y,h,out,hij,hm,ha,hn,ho,p,hr=>by
   obtain ⟨c,hc⟩:∃ c,s[i]?=some c:=⟨s[i]'(by omega),List.getElem?_eq_getElem (by omega)⟩
   rw [drop_at hc,lnsL] at hr
   rw [Lz6c_eq]
   refine bindV_mk (len_str (by kernel_rfl)) ?_
   refine bindS_mk b_lss ?_
   rw [decide_eq_true (by omega)]
   refine i_t ?_
   refine Meet.of (cast_p (Jz58_eq _ _ _ _ _ _ _ _) ?_)
   refine bindS_mk (ixS (b:=c) (by kernel_rfl) (by omega) (by rw [show ((i:Nat):Int).toNat=i by omega];exact hc)) ?_
   refine bindS_mk b_neq ?_
   refine i_split (fun d=>?_) (fun d=>?_)
   · replace d:=ne_of_bne d
     have hc10:c≠10:=fun q=>by subst q;exact d rfl
     rw [if_neg hc10,seg_snoc ha hc] at hr
     refine Meet.of (cast_p (Jz5c_eq _ _ _ _ _ _ _ _) ?_)
     refine bindS_mk (w_add (wrap_i64 (by omega) (by omega))) ?_
     exact Meet.of (loop44 hs j (i + 1) m n a y h out (by omega) (by omega) (by omega) hn ho p hr)
   · replace d:=eq_of_bne_false d
     have hc10:c=10:=UInt8.toNat_inj.1 (by show c.toNat=10;omega)
     rw [if_pos hc10] at hr
     refine Meet.of (line44 hs ha (by omega) hn ho p hr fun y' h' hn' p' hr'=>?_)
     exact loop44 hs j (i + 1) m (n + 1) (i + 1) y' h' _ (by omega) (by omega) (Nat.le_refl _) hn' (by simp;omega) p' (by rw [seg_nil];exact hr')
end
theorem parseRP (s:List UInt8) (h0:AH):ACalls Pg 44 [.str s] h0 (ParseEnd (parT evR s) h0):=by
 refine C44 _ _ _ ?_
 refine bindV_mk (len_str (by kernel_rfl)) ?_
 refine bindS_mk b_gtr ?_
 refine i_split (fun c=>?_) (fun c=>?_)
 · replace c:=of_decide_eq_true c
   rw [show parT evR s=([],0,10) from if_pos (by omega)]
   exact ⟨_,rfl,.inl ⟨rfl,rfl⟩,Nat.le_refl _,fun _ _=>rfl⟩
 · replace c:=of_decide_eq_false c
   refine Meet.of (cast_p (Jz57_eq _ _ _) ?_)
   exact ⟨s.length + 1,Meet.of (loop44 (by omega) s.length 0 (s.length + 1) 0 0 _ _ [] (by omega) (by omega) (Nat.le_refl _) (by omega) (by simp) (PM.nil h0) (if_neg (by omega)))⟩
end Go.Proofs.YtcglbpjpbjaecaaGreat.Sh
namespace Go.Ab
open Go Go.RowKit
variable {P:Program}
theorem acalls_subL {f:FuncId} {args:List V} {v:V} {h hs:AH} (hn:hs.next=h.next) (hsub:∀ n o,hs.m n=some o→h.m n=some o) (ho:oldV (fun n=>(hs.m n).isSome) v=true)
   (c:ACalls P f args hs (pureE v hs)):ACalls P f args h (pureE v h):=by
 intro B ι W vs F r
 let Bs:Base:=⟨fun b=>b < W.heap.size∧∀ n o L,hs.m n=some o→o.isOwn=true→ι n=some L→b≠L.blk,W⟩
 have Fs:Fits P Bs ι hs W :=
   ⟨fun n o hm=>F.obj n o (hsub n o hm),fun n hk=>F.fresh n (by omega),fun n n' o o' L L' a b=>F.apart n n' o o' L L' (hsub n o a) (hsub n' o' b),
     fun n o L hm how hL hb=>hb.2 n o L hm how hL rfl,fun b hb=>⟨rfl,hb.1⟩,rfl,rfl,rfl,Nat.le_refl _⟩
 refine (c Bs ι W vs Fs r).mono ?_
 rintro e w' ⟨ι',h',ae,h1,h2,h3,h4⟩
 cases ae with
 | panic _=>exact h4.elim
 | ret u =>
   obtain ⟨hu,hh⟩:=h4
   rw [hh] at h2
   subst hu
   have Ff:=Fs.forget h2 h1 fun n _=>rfl
   refine ⟨ι,h,.ret u,Names.le_refl _,?_,?_,rfl,rfl⟩
   · refine ⟨fun n o hm=>?_,F.fresh,F.apart,F.free,fun b hb=>?_,h2.os.trans F.os,h2.tape.trans F.tape,h2.output.trans F.output,Nat.le_trans F.size h2.size⟩
     · cases hsn:hs.m n with
       | some o' =>
         have:=hsub n o' hsn
         rw [hm] at this;cases this
         exact Ff.obj n o hsn
       | none =>
         obtain ⟨L,hL,hr⟩:=F.obj n o hm
         refine ⟨L,hL,objR_keep (Names.le_refl _) (h2.frame L.blk ⟨objR_blk hr,fun n2 o2 L2 a b d q=>?_⟩).1 hr⟩
         have hne:n2≠n:=fun q=>by rw [q,hsn] at a;cases a
         exact F.apart n2 n o2 o L2 L (hsub n2 o2 a) hm hne b d hL q.symm
     · obtain ⟨g1,g2⟩:=F.frame b hb
       obtain ⟨k1,k2⟩:=h2.frame b ⟨g2,fun n o L a how hL q=>F.free n o L (hsub n o a) how hL (q▸hb)⟩
       exact ⟨k1.trans g1,k2⟩
   · cases e with
     | returned x =>
       refine old_rel (fun n hn=>?_) h1 ho h3
       obtain ⟨o,hm⟩:=Option.isSome_iff_exists.1 hn
       obtain ⟨L,hL,_⟩:=Fs.obj n o hm
       exact ⟨L,hL⟩
     | panicked c=>exact h3.elim
     | outgrown=>exact h3.elim
def AH.ownPart (h:AH):AH:=⟨h.next,fun n=>match h.m n with
 | some o=>if o.isOwn then some o else none
 | none=>none⟩
theorem ownPart_own {h:AH} {n:Nat} {o:AO} (hm:h.ownPart.m n=some o):o.isOwn=true∧h.m n=some o:=by
 simp only [AH.ownPart] at hm
 split at hm
 · rename_i o' ho
   split at hm
   · rename_i hw;cases hm;exact ⟨hw,ho⟩
   · cases hm
 · cases hm
theorem ownPart_at {h:AH} {n:Nat} {o:AO} (hm:h.m n=some o) (how:o.isOwn=true):h.ownPart.m n=some o:=by
 simp only [AH.ownPart,hm,how,if_true]
end Go.Ab
namespace Go.Proofs.YtcglbpjpbjaecaaGreat.Sh
open Go Go.Ab Go.RowKit
open Go.Proofs.YtcglbpjpbjaecaaGreat.Ru (Pg okP)
set_option maxRecDepth 10000
set_option linter.unusedSectionVars false
deriving instance DecidableEq for Ev
theorem ne57g (e f:Ev) (c:Bool):aBin Pg .neq 57 (cV e) (cV f) c=some (.bool (!decide (e.ck=f.ck∧e.txn=f.txn∧e.page=f.page∧e.off=f.off∧e.s=f.s))):=by
 have h1:aBin Pg .neq 57 (cV e) (cV f) c=if eqOk Pg 57 (cV e) (cV f) c=true then (aEq Pg 57 (cV e) (cV f)).map (fun b=>.bool (!b)) else none:=rfl
 have h2:eqOk Pg 57 (cV e) (cV f) c=true:=by kernel_rfl
 have h3:plainT Pg 20 57=true:=by kernel_rfl
 rw [h1,h2,if_pos rfl]
 unfold aEq
 rw [h3,if_pos rfl,s57 e,s57 f]
 simp only [Bool.and_self,if_true]
 have:beqV (cV e) (cV f)=some (decide (e.ck=f.ck∧e.txn=f.txn∧e.page=f.page∧e.off=f.off∧e.s=f.s)):=by
   obtain ⟨kind,a,b,ck,txn,page,off,s,keep⟩:=e
   obtain ⟨kind',a',b',ck',txn',page',off',s',keep'⟩:=f
   simp only [cV,beqV,beqVs,if_true]
   clear h1 h2 h3
   have es:(s == s')=decide (s=s'):=by by_cases h:s=s' <;> simp [h]
   simp only [eqd,es]
   have i1:((ck:Int)=ck')=(ck=ck'):=propext ⟨fun h=>by omega,fun h=>by omega⟩
   have i2:((txn:Int)=txn')=(txn=txn'):=propext ⟨fun h=>by omega,fun h=>by omega⟩
   have i3:((page:Int)=page')=(page=page'):=propext ⟨fun h=>by omega,fun h=>by omega⟩
   simp only [i1,i2,i3]
   by_cases k1:ck=ck' <;> by_cases k2:txn=txn' <;> by_cases k3:page=page' <;> by_cases k4:off=off' <;> by_cases k5:s=s' <;> simp [k1,k2,k3,k4,k5]
 rw [this];rfl
theorem old73:oldV (fun _=>false) (.agg [.int .u8 0,.int .i64 0,.int .i64 0,.agg [.int .u8 0,.int .u64 0,.int .u16 0,.int .i64 0,.str []],.slc none 0])=true:=by kernel_rfl
def Owned (h:AH):Prop:=∀ n o,h.m n=some o→o.isOwn=true
theorem Owned.make {h:AH} (w:Owned h) {o:AO} (ho:o.isOwn=true):Owned (h.make o):=fun n o' hm=>by
 rw [make_m] at hm;split at hm
 · cases hm;exact ho
 · exact w n o' hm
theorem Owned.put {h:AH} (w:Owned h) {n:Nat} {o:AO} (ho:o.isOwn=true):Owned (h.put n o):=fun k o' hm=>by
 rw [put_m] at hm;split at hm
 · cases hm;exact ho
 · exact w k o' hm
section
variable (la lb:List Ev) {h0:AH} {x y:V} {v:V} (hv:.bool (decide (la=lb))=v) (hlen:la.length=lb.length)
include hv hlen
omit hv hlen in
theorem neqBool (a b c:Bool):aBin Pg .neq 4 (.bool a) (.bool b) c=some (.bool (a != b)):=by cases a <;> cases b <;> cases c <;> kernel_rfl
omit hlen in
theorem inner45 {h:AH} {e1 e2:Ev} {k1 k2:V} {i m:Nat} (hi:i < 100000) (h1:KeepB h k1 e1.keep) (h2:KeepB h k2 e2.keep) (hkl:e1.keep.length=e2.keep.length) (hb0:e1.keep.length≤100000) (heq:e1.keep=e2.keep→e1=e2) (hF:e1≠e2→decide (la=lb)=false)
   (hw:Owned h) (hn:h0.next≤h.next) (fr:∀ n,n < h0.next→h.m n=h0.m n) {n6 n7:Nat} (hm6:h.m n6=some (.cells true (.one 73) (evV e1 k1))) (hm7:h.m n7=some (.cells true (.one 73) (evV e2 k2))) (cont:e1=e2→Lz6d (Ends v h0) m x y (.int .i64 la.length) (.int .i64 ((i + 1:Nat):Int)) h):∀ (j p:Nat) (mm:Nat),p≤e1.keep.length→e1.keep.length - p=j→j < mm→e1.keep.take p=e2.keep.take p→Lz6e (Ends v h0) m mm x y (.ptr (some ⟨n6,.one 73,[]⟩)) (.ptr (some ⟨n7,.one 73,[]⟩)) (.int .i64 la.length) (.int .i64 i) (.int .i64 e1.keep.length) (.int .i64 p) h:=by
 obtain ⟨a1,hk1⟩:=h1.shape
 obtain ⟨a2,hk2⟩:=h2.shape
 subst hk1;subst hk2
 intro j
 induction j with
 | zero =>
   intro p mm hp hj hm ht
   obtain ⟨mm,rfl⟩:∃ j,mm=j + 1:=⟨mm - 1,by omega⟩
   rw [Lz6e_eq]
   refine bindS_mk (b_lss) ?_
   refine i_split (fun c1=>?_) (fun c1=>?_)
   · try rw [c1]
     replace c1:=of_decide_eq_true c1
     exfalso;omega
   · try rw [c1]
     replace c1:=of_decide_eq_false c1
     refine Meet.of (cast_p (Jz5m_eq _ _ _ _ _ _ _) ?_)
     refine bindS_mk (w_add (wrap_i64 (by omega) (by omega))) ?_
     refine Meet.of ?_
     rw [show ((i:Nat):Int) + 1=((i + 1:Nat):Int) by omega]
     exact cont (heq (by rw [List.take_of_length_le (by omega),List.take_of_length_le (by omega)] at ht;exact ht))
 | succ j ih =>
   intro p mm hp hj hm ht
   obtain ⟨mm,rfl⟩:∃ j,mm=j + 1:=⟨mm - 1,by omega⟩
   obtain ⟨b1,hb1⟩:∃ b,e1.keep[p]?=some b:=⟨e1.keep[p]'(by omega),List.getElem?_eq_getElem (by omega)⟩
   obtain ⟨b2,hb2⟩:∃ b,e2.keep[p]?=some b:=⟨e2.keep[p]'(by omega),List.getElem?_eq_getElem (by omega)⟩
   rw [Lz6e_eq]
   refine bindS_mk (b_lss) ?_
   refine (show decide (((p:Nat):Int) < ((e1.keep.length:Nat):Int))=true from decide_eq_true (by omega))▸i_t ?_
   rcases h1 with ⟨_,q⟩ | ⟨nA,hnA,qA,hmA⟩
   · rw [q] at hb1;cases hb1
   rcases h2 with ⟨_,q⟩ | ⟨nB,hnB,qB,hmB⟩
   · rw [q] at hb2;cases hb2
   obtain ⟨rfl,_⟩:=V.slc.injEq ..▸qA
   obtain ⟨rfl,_⟩:=V.slc.injEq ..▸qB
   refine Meet.of ?_
   rw [Jz5k_eq]
   refine bindSO_mk (fa_mk (by kernel_rfl)) ?_
   refine bindVO_mk (ld_mk hm6 (by kernel_rfl) rfl) ?_
   refine bindSO_mk (ia_slc _ (by kernel_rfl) (by omega) (by omega)) ?_
   refine bindVO_mk (ld_mk hmA (by kernel_rfl) (getV_row (boolsV_get (by rw [show 0 + ((p:Nat):Int).toNat=p by omega];exact hb1)))) ?_
   refine bindSO_mk (fa_mk (by kernel_rfl)) ?_
   refine bindVO_mk (ld_mk hm7 (by kernel_rfl) rfl) ?_
   refine bindSO_mk (ia_slc _ (by kernel_rfl) (by omega) (by omega)) ?_
   refine bindVO_mk (ld_mk hmB (by kernel_rfl) (getV_row (boolsV_get (by rw [show 0 + ((p:Nat):Int).toNat=p by omega];exact hb2)))) ?_
   refine bindSO_mk (neqBool b1 b2 _) ?_
   refine i_split (fun c1=>?_) (fun c1=>?_)
   · try rw [c1]
     exact ⟨congrArg AEnd.ret ((congrArg V.bool (hF (fun q=>by rw [q,hb2] at hb1;cases hb1;simp at c1)).symm).trans hv),fr⟩
   · try rw [c1]
     refine Meet.of (cast_p (Jz5l_eq _ _ _ _ _ _ _ _ _ _ _ _) ?_)
     first | refine bindS_mk (w_add (by first | exact wrap_i64 (by omega) (by omega) | exact wr_u8 (by omega) (by omega) | exact wr_u16 (by omega) (by omega) | exact wr_u32 (by omega) (by omega) | exact wr_u64 (by omega) (by omega))) ?_ | refine bindS_mk (b_add) ?_
     refine Meet.of ((congrArg (fun z:Int=>Lz6e (Ends v h0) m mm _ _ _ _ _ _ _ (.int .i64 z) h) (show ((p:Nat):Int) + 1=((p + 1:Nat):Int) by omega)).mpr (ih (p + 1) mm (by omega) (by omega) (by omega) ?_))
     rw [take_succ' hb1,take_succ' hb2,ht,show b1=b2 by simpa using c1]
omit hv hlen in
theorem ev_ext {e f:Ev} (h1:e.kind=f.kind) (h2:e.a=f.a) (h3:e.b=f.b) (h4:e.ck=f.ck∧e.txn=f.txn∧e.page=f.page∧e.off=f.off∧e.s=f.s) (h5:e.keep=f.keep):e=f:=by
 cases e;cases f;simp_all
theorem tail45 {h:AH} {e1 e2:Ev} {k1 k2:V} {i m:Nat} (hi:i < 100000) (hkA:KeepB h k1 e1.keep) (hkB:KeepB h k2 e2.keep) (hb0:e1.keep.length≤100000) (hF:e1≠e2→decide (la=lb)=false)
   (hw:Owned h) (hn:h0.next≤h.next) (fr:∀ n,n < h0.next→h.m n=h0.m n) {n6 n7:Nat} (hm6:h.m n6=some (.cells true (.one 73) (evV e1 k1))) (hm7:h.m n7=some (.cells true (.one 73) (evV e2 k2))) (cont:e1=e2→Lz6d (Ends v h0) m x y (.int .i64 la.length) (.int .i64 ((i + 1:Nat):Int)) h):(
 bindV (still (aFieldAddr Pg 73 (.ptr (some ⟨n6,.one 73,[]⟩)) 0) h) fun v23 h24 =>
 bindV (aLoadV Pg h24 5 v23) fun v25 h26 =>
 bindV (still (aFieldAddr Pg 73 (.ptr (some ⟨n7,.one 73,[]⟩)) 0) h26) fun v27 h28 =>
 bindV (aLoadV Pg h28 5 v27) fun v29 h30 =>
 bindV (still (aBin Pg .neq 5 v25 v29 false) h30) fun v31 h32 =>
 vcG v31 false (
 bindV (still (aFieldAddr Pg 73 (.ptr (some ⟨n6,.one 73,[]⟩)) 1) h32) fun v96 h97 =>
 bindV (aLoadV Pg h97 3 v96) fun v98 h99 =>
 bindV (still (aFieldAddr Pg 73 (.ptr (some ⟨n7,.one 73,[]⟩)) 1) h99) fun v100 h101 =>
 bindV (aLoadV Pg h101 3 v100) fun v102 h103 =>
 bindV (still (aBin Pg .neq 3 v98 v102 false) h103) fun v104 h105 =>
 Meet (Gz1o (Ends v h0) m x y (.ptr (some ⟨n6,.one 73,[]⟩)) (.ptr (some ⟨n7,.one 73,[]⟩)) (.int .i64 la.length) (.int .i64 i) v31 v104 h105)) (Meet (Gz1o (Ends v h0) m x y (.ptr (some ⟨n6,.one 73,[]⟩)) (.ptr (some ⟨n7,.one 73,[]⟩)) (.int .i64 la.length) (.int .i64 i) v31 hole h32))):=by
 obtain ⟨a1,hk1⟩:=hkA.shape
 obtain ⟨a2,hk2⟩:=hkB.shape
 subst hk1;subst hk2
 refine bindS_mk (fa_mk (by kernel_rfl)) ?_
 refine bindV_mk (ld_mk hm6 (by kernel_rfl) rfl) ?_
 refine bindS_mk (fa_mk (by kernel_rfl)) ?_
 refine bindV_mk (ld_mk hm7 (by kernel_rfl) rfl) ?_
 refine bindS_mk (b_neq) ?_
 refine g_split_f (fun c1=>?_) (fun c1=>?_)
 · try rw [c1]
   replace c1:=eq_of_bne_false c1
   refine bindS_mk (fa_mk (by kernel_rfl)) ?_
   refine bindV_mk (ld_mk hm6 (by kernel_rfl) rfl) ?_
   refine bindS_mk (fa_mk (by kernel_rfl)) ?_
   refine bindV_mk (ld_mk hm7 (by kernel_rfl) rfl) ?_
   refine bindS_mk (b_neq) ?_
   refine Meet.of (cast_p (Gz1o_eq _ _ _ _ _ _ _ _ _ _ _) ?_)
   refine bindV_mk p_f ?_
   refine g_split_f (fun c2=>?_) (fun c2=>?_)
   · try rw [c2]
     replace c2:=eq_of_bne_false c2
     refine bindS_mk (fa_mk (by kernel_rfl)) ?_
     refine bindV_mk (ld_mk hm6 (by kernel_rfl) rfl) ?_
     refine bindS_mk (fa_mk (by kernel_rfl)) ?_
     refine bindV_mk (ld_mk hm7 (by kernel_rfl) rfl) ?_
     refine bindS_mk (b_neq) ?_
     refine Meet.of (cast_p (Gz1p_eq _ _ _ _ _ _ _ _ _ _ _) ?_)
     refine bindV_mk p_f ?_
     refine g_split_f (fun c3=>?_) (fun c3=>?_)
     · try rw [c3]
       replace c3:=eq_of_bne_false c3
       refine bindS_mk (fa_mk (by kernel_rfl)) ?_
       refine bindV_mk (ld_mk hm6 (by kernel_rfl) rfl) ?_
       refine bindS_mk (fa_mk (by kernel_rfl)) ?_
       refine bindV_mk (ld_mk hm7 (by kernel_rfl) rfl) ?_
       refine bindS_mk (ne57g e1 e2 _) ?_
       refine Meet.of (cast_p (Gz1q_eq _ _ _ _ _ _ _ _ _ _ _) ?_)
       refine bindV_mk p_f ?_
       refine g_split_f (fun c4=>?_) (fun c4=>?_)
       · try rw [c4]
         have c4:(e1.ck=e2.ck∧e1.txn=e2.txn∧e1.page=e2.page∧e1.off=e2.off∧e1.s=e2.s):=of_decide_eq_true (by simpa only [Bool.not_eq_false'] using c4)
         refine bindS_mk (fa_mk (by kernel_rfl)) ?_
         refine bindV_mk (ld_mk hm6 (by kernel_rfl) rfl) ?_
         refine bindV_mk (len_slc (by kernel_rfl)) ?_
         refine bindS_mk (fa_mk (by kernel_rfl)) ?_
         refine bindV_mk (ld_mk hm7 (by kernel_rfl) rfl) ?_
         refine bindV_mk (len_slc (by kernel_rfl)) ?_
         refine bindS_mk (b_neq) ?_
         refine Meet.of (cast_p (Gz1r_eq _ _ _ _ _ _ _ _ _ _ _) ?_)
         refine bindV_mk p_f ?_
         refine Meet.of (cast_p (Jz5i_eq _ _ _ _ _ _ _ _ _ _) ?_)
         refine i_split (fun c5=>?_) (fun c5=>?_)
         · try rw [c5]
           replace c5:=ne_of_bne c5
           exact ⟨congrArg AEnd.ret ((congrArg V.bool (hF (fun q=>by subst q;first | (exact absurd rfl (by assumption)) | (refine absurd ?_ (by assumption:¬ (e1.ck=e1.ck∧e1.txn=e1.txn∧e1.page=e1.page∧e1.off=e1.off∧e1.s=e1.s));simp))).symm).trans hv),fr⟩
         · try rw [c5]
           replace c5:=eq_of_bne_false c5
           refine Meet.of (cast_p (Jz5j_eq _ _ _ _ _ _ _ _ _) ?_)
           refine bindS_mk (fa_mk (by kernel_rfl)) ?_
           refine bindV_mk (ld_mk hm6 (by kernel_rfl) rfl) ?_
           refine bindV_mk (len_slc (by kernel_rfl)) ?_
           have hkl:e1.keep.length=e2.keep.length:=by omega
           refine ⟨e1.keep.length + 1,Meet.of (inner45 la lb hv (by omega) hkA hkB hkl hb0 ?_ hF hw hn fr hm6 hm7 cont e1.keep.length 0 _ (by omega) (by omega) (by omega) rfl)⟩
           intro q
           exact ev_ext (by omega) (by omega) (by omega) (by assumption) q
       · try rw [c4]
         have c4:¬ (e1.ck=e2.ck∧e1.txn=e2.txn∧e1.page=e2.page∧e1.off=e2.off∧e1.s=e2.s):=of_decide_eq_false (by simpa only [Bool.not_eq_true'] using c4)
         refine Meet.of (cast_p (Gz1r_eq _ _ _ _ _ _ _ _ _ _ _) ?_)
         refine bindV_mk p_t ?_
         refine Meet.of (cast_p (Jz5i_eq _ _ _ _ _ _ _ _ _ _) ?_)
         refine i_t ?_
         exact ⟨congrArg AEnd.ret ((congrArg V.bool (hF (fun q=>by subst q;first | (exact absurd rfl (by assumption)) | (refine absurd ?_ (by assumption:¬ (e1.ck=e1.ck∧e1.txn=e1.txn∧e1.page=e1.page∧e1.off=e1.off∧e1.s=e1.s));simp))).symm).trans hv),fr⟩
     · try rw [c3]
       replace c3:=ne_of_bne c3
       refine Meet.of (cast_p (Gz1q_eq _ _ _ _ _ _ _ _ _ _ _) ?_)
       refine bindV_mk p_t ?_
       refine g_tf ?_
       refine Meet.of (cast_p (Gz1r_eq _ _ _ _ _ _ _ _ _ _ _) ?_)
       refine bindV_mk p_t ?_
       refine Meet.of (cast_p (Jz5i_eq _ _ _ _ _ _ _ _ _ _) ?_)
       refine i_t ?_
       exact ⟨congrArg AEnd.ret ((congrArg V.bool (hF (fun q=>by subst q;first | (exact absurd rfl (by assumption)) | (refine absurd ?_ (by assumption:¬ (e1.ck=e1.ck∧e1.txn=e1.txn∧e1.page=e1.page∧e1.off=e1.off∧e1.s=e1.s));simp))).symm).trans hv),fr⟩
   · try rw [c2]
     replace c2:=ne_of_bne c2
     refine Meet.of (cast_p (Gz1p_eq _ _ _ _ _ _ _ _ _ _ _) ?_)
     refine bindV_mk p_t ?_
     refine g_tf ?_
     refine Meet.of (cast_p (Gz1q_eq _ _ _ _ _ _ _ _ _ _ _) ?_)
     refine bindV_mk p_t ?_
     refine g_tf ?_
     refine Meet.of (cast_p (Gz1r_eq _ _ _ _ _ _ _ _ _ _ _) ?_)
     refine bindV_mk p_t ?_
     refine Meet.of (cast_p (Jz5i_eq _ _ _ _ _ _ _ _ _ _) ?_)
     refine i_t ?_
     exact ⟨congrArg AEnd.ret ((congrArg V.bool (hF (fun q=>by subst q;first | (exact absurd rfl (by assumption)) | (refine absurd ?_ (by assumption:¬ (e1.ck=e1.ck∧e1.txn=e1.txn∧e1.page=e1.page∧e1.off=e1.off∧e1.s=e1.s));simp))).symm).trans hv),fr⟩
 · try rw [c1]
   replace c1:=ne_of_bne c1
   refine Meet.of (cast_p (Gz1o_eq _ _ _ _ _ _ _ _ _ _ _) ?_)
   refine bindV_mk p_t ?_
   refine g_tf ?_
   refine Meet.of (cast_p (Gz1p_eq _ _ _ _ _ _ _ _ _ _ _) ?_)
   refine bindV_mk p_t ?_
   refine g_tf ?_
   refine Meet.of (cast_p (Gz1q_eq _ _ _ _ _ _ _ _ _ _ _) ?_)
   refine bindV_mk p_t ?_
   refine g_tf ?_
   refine Meet.of (cast_p (Gz1r_eq _ _ _ _ _ _ _ _ _ _ _) ?_)
   refine bindV_mk p_t ?_
   refine Meet.of (cast_p (Jz5i_eq _ _ _ _ _ _ _ _ _ _) ?_)
   refine i_t ?_
   exact ⟨congrArg AEnd.ret ((congrArg V.bool (hF (fun q=>by subst q;first | (exact absurd rfl (by assumption)) | (refine absurd ?_ (by assumption:¬ (e1.ck=e1.ck∧e1.txn=e1.txn∧e1.page=e1.page∧e1.off=e1.off∧e1.s=e1.s));simp))).symm).trans hv),fr⟩
end
end Go.Proofs.YtcglbpjpbjaecaaGreat.Sh
namespace Go.Proofs.YtcglbpjpbjaecaaGreat.Sh
open Go Go.Ab Go.RowKit
open Go.Proofs.YtcglbpjpbjaecaaGreat.Ru (Pg okP)
set_option maxRecDepth 10000
section
variable (la lb:List Ev) {h0:AH} {x y:V} {v:V} (hv:.bool (decide (la=lb))=v) (hlen:la.length=lb.length)
include hv hlen
theorem step45 {h:AH} {e1 e2:Ev} {i m:Nat} (hi:i < la.length) (hi2:la.length≤100000) (hA:ScrB h0 x la) (hB:ScrB h0 y lb) (q1:la[i]?=some e1) (q2:lb[i]?=some e2) (hb0:e1.keep.length≤100000) (hF:e1≠e2→decide (la=lb)=false)
   (hw:Owned h) (hn:h0.next≤h.next) (fr:∀ n,n < h0.next→h.m n=h0.m n) (cont:e1=e2→∀ h:AH,Owned h→h0.next≤h.next→(∀ n,n < h0.next→h.m n=h0.m n)→Lz6d (Ends v h0) m x y (.int .i64 la.length) (.int .i64 ((i + 1:Nat):Int)) h):Jz5h (Ends v h0) m x y (.int .i64 la.length) (.int .i64 i) h:=by
 obtain ⟨nA,xa,k1,hnA,hxA,hmA,hxa,hkA⟩:=hA.at q1
 obtain ⟨nB,xb,k2,hnB,hxB,hmB,hxb,hkB⟩:=hB.at q2
 subst hxA;subst hxB
 have gA:=(fr nA hnA).trans hmA
 have gB:=(fr nB hnB).trans hmB
 obtain ⟨a1,s1⟩:=hkA.shape
 obtain ⟨a2,s2⟩:=hkB.shape
 have sh1:hasShape Pg (evV e1 k1) 73=true:=by rw [s1];exact s73 e1 a1 _
 have sh2:hasShape Pg (evV e2 k2) 73=true:=by rw [s2];exact s73 e2 a2 _
 have ga:getV (.agg xa) [0 + ((i:Nat):Int).toNat]=some (evV e1 k1):=getV_row (by rw [show 0 + ((i:Nat):Int).toNat=i by omega];exact hxa)
 have gb:getV (.agg xb) [0 + ((i:Nat):Int).toNat]=some (evV e2 k2):=getV_row (by rw [show 0 + ((i:Nat):Int).toNat=i by omega];exact hxb)
 rw [Jz5h_eq]
 refine bindSO_mk (ia_slc _ (by kernel_rfl) (by omega) (by omega)) ?_
 refine bindVO_mk (ld_mk gA (by kernel_rfl) ga) ?_
 refine bindSO_mk (ia_slc _ (by kernel_rfl) (by omega) (by omega)) ?_
 refine bindVO_mk (ld_mk gB (by kernel_rfl) gb) ?_
 refine flo_mk z73 zs73 old73 hw ⟨ld_mk (show AH.m _ _=_ by rw [make_m,if_neg (by omega)];exact gB) (by kernel_rfl) gb,?_⟩
 have w1:=hw.make (o:=.cells true (.one 73) (.agg [.int .u8 0,.int .i64 0,.int .i64 0,.agg [.int .u8 0,.int .u64 0,.int .u16 0,.int .i64 0,.str []],.slc none 0])) rfl
 refine flo_mk z73 zs73 old73 w1 ⟨ld_mk (show AH.m _ _=_ by rw [make_m,if_neg (by rw [make_next];omega),make_m,if_neg (by omega)];exact gB) (by kernel_rfl) gb,?_⟩
 have w2:=w1.make (o:=.cells true (.one 73) (.agg [.int .u8 0,.int .i64 0,.int .i64 0,.agg [.int .u8 0,.int .u64 0,.int .u16 0,.int .i64 0,.str []],.slc none 0])) rfl
 generalize hz:(V.agg [.int .u8 0,.int .i64 0,.int .i64 0,.agg [.int .u8 0,.int .u64 0,.int .u16 0,.int .i64 0,.str []],.slc none 0])=zz at *
 refine bindV_mk (st_mk (p:=[]) (w:=zz) (v':=evV e1 k1) (show AH.m _ _=some (.cells true (.one 73) zz) by rw [make_m,if_neg (by rw [make_next];omega),make_m,if_pos rfl]) (by kernel_rfl) rfl sh1 rfl) ?_
 refine ⟨ld_mk (show AH.m _ _=_ by rw [put_m,if_neg (by omega),make_m,if_neg (by rw [make_next];omega),make_m,if_neg (by omega)];exact gB) (by kernel_rfl) gb,?_⟩
 refine bindV_mk (st_mk (p:=[]) (w:=zz) (v':=evV e2 k2) (show AH.m _ _=some (.cells true (.one 73) zz) by rw [put_m,if_neg (by rw [make_next];omega),make_m,if_pos rfl]) (by kernel_rfl) rfl sh2 rfl) ?_
 generalize hh9:(AH.put (AH.put (AH.make (AH.make h _) _) _ _) _ _)=h9
 have t6:h9.m h.next=some (.cells true (.one 73) (evV e1 k1)):=by rw [← hh9,put_m,if_neg (by rw [make_next];omega),put_m,if_pos rfl]
 have t7:h9.m (h.next + 1)=some (.cells true (.one 73) (evV e2 k2)):=by rw [← hh9,put_m,if_pos (by rw [make_next])]
 have tn:h9.next=h.next + 2:=by rw [← hh9];rfl
 have to:∀ n,n < h.next→h9.m n=h.m n:=fun n q=>by rw [← hh9,put_m,if_neg (by rw [make_next];omega),put_m,if_neg (by omega),make_m,if_neg (by rw [make_next];omega),make_m,if_neg (by omega)]
 have tw:Owned h9:=by rw [← hh9];exact (w2.put rfl).put rfl
 have fr9:∀ n,n < h0.next→h9.m n=h0.m n:=fun n q=>(to n (by omega)).trans (fr n q)
 exact tail45 la lb hv hlen (by omega) (hkA.keep (by omega) fr9) (hkB.keep (by omega) fr9) hb0 hF tw (by omega) fr9 t6 t7 (fun q=>cont q h9 tw (by omega) fr9)
theorem loop45 (hi2:la.length≤100000) (hb:∀ e∈la,e.keep.length≤100000) (hA:ScrB h0 x la) (hB:ScrB h0 y lb):∀ (j i m:Nat) (h:AH),i≤la.length→la.length - i=j→j < m→la.take i=lb.take i→Owned h→h0.next≤h.next→(∀ n,n < h0.next→h.m n=h0.m n) →
   Lz6d (Ends v h0) m x y (.int .i64 la.length) (.int .i64 i) h:=by
 intro j
 induction j with
 | zero =>
   intro i m h hi hj hm ht hw hn fr
   obtain ⟨m,rfl⟩:∃ j,m=j + 1:=⟨m - 1,by omega⟩
   rw [Lz6d_eq]
   refine bindS_mk (b_lss) ?_
   refine i_split (fun c1=>?_) (fun c1=>?_)
   · try rw [c1]
     replace c1:=of_decide_eq_true c1
     exfalso;omega
   · try rw [c1]
     replace c1:=of_decide_eq_false c1
     refine Meet.of (cast_p (Jz5n_eq _ _) ?_)
     have e:la=lb:=by rw [List.take_of_length_le (by omega),List.take_of_length_le (by omega)] at ht;exact ht
     exact ⟨congrArg AEnd.ret ((congrArg V.bool (decide_eq_true e).symm).trans hv),fr⟩
 | succ j ih =>
   intro i m h hi hj hm ht hw hn fr
   obtain ⟨m,rfl⟩:∃ j,m=j + 1:=⟨m - 1,by omega⟩
   obtain ⟨e1,he1⟩:∃ e,la[i]?=some e:=⟨la[i]'(by omega),List.getElem?_eq_getElem (by omega)⟩
   obtain ⟨e2,he2⟩:∃ e,lb[i]?=some e:=⟨lb[i]'(by omega),List.getElem?_eq_getElem (by omega)⟩
   rw [Lz6d_eq]
   refine bindS_mk (b_lss) ?_
   refine (show decide (((i:Nat):Int) < ((la.length:Nat):Int))=true from decide_eq_true (by omega))▸i_t ?_
   refine Meet.of ?_
   refine step45 la lb hv hlen (by omega) hi2 hA hB he1 he2 (hb e1 (List.mem_of_getElem? he1)) (fun hne=>decide_eq_false fun q=>hne ?_) hw hn fr (fun q h w n f=>ih (i + 1) m h (by omega) (by omega) (by omega) ?_ w n f)
   · rw [q,he2] at he1;cases he1;rfl
   · rw [take_succ' he1,take_succ' he2,ht,q]
end
theorem same0 (la lb:List Ev) {h0:AH} {x y:V} {v:V} (hv:.bool (decide (la=lb))=v) (hi2:la.length≤100000) (hb:∀ e∈la,e.keep.length≤100000) (hA:ScrB h0 x la) (hB:ScrB h0 y lb) (hw:Owned h0):ACalls Pg 45 [x,y] h0 (Ends v h0):=by
 obtain ⟨a1,s1⟩:=hA.shape
 obtain ⟨a2,s2⟩:=hB.shape
 subst s1;subst s2
 refine C45 _ _ _ _ ?_
 refine bindV_mk (len_slc (by kernel_rfl)) ?_
 refine bindV_mk (len_slc (by kernel_rfl)) ?_
 refine bindS_mk (b_neq) ?_
 refine i_split (fun c1=>?_) (fun c1=>?_)
 · try rw [c1]
   replace c1:=ne_of_bne c1
   exact ⟨congrArg AEnd.ret ((congrArg V.bool (decide_eq_false (fun q=>c1 (by rw [q]))).symm).trans hv),fun n _=>rfl⟩
 · try rw [c1]
   replace c1:=eq_of_bne_false c1
   refine Meet.of (cast_p (Jz5g_eq _ _ _ _) ?_)
   refine bindV_mk (len_slc (by kernel_rfl)) ?_
   exact ⟨la.length + 1,Meet.of (loop45 la lb hv (by omega) hi2 hb hA hB la.length 0 _ _ (by omega) (by omega) (by omega) rfl hw (by omega) (fun n _=>rfl))⟩
theorem KeepB.part {h:AH} {k:V} {l:List Bool} (b:KeepB h k l):KeepB h.ownPart k l:=by
 rcases b with ⟨rfl,rfl⟩ | ⟨n,h1,rfl,h3⟩
 · exact .inl ⟨rfl,rfl⟩
 · exact .inr ⟨n,h1,rfl,ownPart_at h3 rfl⟩
theorem ScrB.part {h:AH} {x:V} {l:List Ev} (b:ScrB h x l):ScrB h.ownPart x l:=by
 rcases b with ⟨rfl,rfl⟩ | ⟨n,xs,h1,rfl,h3,h4⟩
 · exact .inl ⟨rfl,rfl⟩
 · exact .inr ⟨n,xs,h1,rfl,ownPart_at h3 rfl,h4.1,fun i e he=>let ⟨k,q1,q2⟩:=h4.2 i e he;⟨k,q1,q2.part⟩⟩
theorem sameP (la lb:List Ev) {h:AH} {x y:V} (hi2:la.length≤100000) (hb:∀ e∈la,e.keep.length≤100000) (hA:ScrB h x la) (hB:ScrB h y lb):ACalls Pg 45 [x,y] h (pureE (.bool (decide (la=lb))) h) :=
 acalls_subL (hs:=h.ownPart) rfl (fun n o q=>(ownPart_own q).2) rfl (acalls_forget (by rfl) (same0 la lb rfl hi2 hb hA.part hB.part fun n o q=>(ownPart_own q).1))
end Go.Proofs.YtcglbpjpbjaecaaGreat.Sh
namespace Go.Proofs.YtcglbpjpbjaecaaGreat.It
open Go Go.Ab Go.RowKit
open Go.Proofs.YtcglbpjpbjaecaaGreat.Ru (Pg okP hd FT pu tabOk)
set_option maxRecDepth 100000
section
variable {P:Program} {B:Base} {ι:Names} {h:AH} {W:World}
theorem fits_put {l:Nat} {x x':Obj} (F:Fits P B ι h W) (hl:W.heap[l]?=some x) (hx:(∀ a b c,x≠.cells a b c)∧(∀ a b,x≠.map a b)∧(∀ a b,x≠.stringIter a b)∧∀ a b c d,x≠.mapIter a b c d) (hB:¬ B.F l):Fits P B ι h (W.putObj l x'):=by
 have ne:∀ b,b≠l→(W.putObj l x').heap[b]?=W.heap[b]?:=fun b hb=>World.putObj_heap_other hb
 have sz:(W.putObj l x').heap.size=W.heap.size:=by simp [World.putObj]
 exact {
   obj:=fun n o hm=>by
     obtain ⟨L,h1,h2⟩:=F.obj n o hm
     refine ⟨L,h1,objR_keep (Names.le_refl _) (ne _ ?_) h2⟩
     intro e
     cases o with
     | cells own ty v=>obtain ⟨_,_,a,b,c,elem,fr,g1,_⟩:=h2;rw [e,hl] at g1;cases g1;exact hx.1 _ _ _ rfl
     | mp kt et es=>obtain ⟨xs,c,g1,_⟩:=h2;rw [e,hl] at g1;cases g1;exact hx.2.1 _ _ rfl
     | mps kt et es st c=>obtain ⟨xs,g1,_⟩:=h2;rw [e,hl] at g1;cases g1;exact hx.2.1 _ _ rfl
     | sit s p=>obtain ⟨_,g1⟩:=h2;rw [e,hl] at g1;cases g1;exact hx.2.2.1 _ _ rfl
     | mit m a b c=>obtain ⟨_,mb,_,g1⟩:=h2;rw [e,hl] at g1;cases g1;exact hx.2.2.2 _ _ _ _ rfl
   fresh:=F.fresh
   apart:=F.apart
   free:=F.free
   frame:=fun b hb=>⟨(ne b (fun e=>hB (e▸hb))).trans (F.frame b hb).1,by rw [sz];exact (F.frame b hb).2⟩
   os:=F.os
   tape:=F.tape
   output:=F.output
   size:=by rw [sz];exact F.size }
theorem piece (K0:Ok P) {N:Nat} {c:Code} {k:KT} {D:List AD} {E E':XE} {H H':HT} (cc:∀ e,Same e E→∀ (Qv:AExit→Env→AH→Prop),(∀ e',Same e' E'→Qv .normal e' H'.ah)→vc P N c k Qv e H.ah)
   {e:Env} {a:Act} {Q:Exit→Act→World→Prop} (F:Fits P B ι H.ah W) (r:relE P ι N D e a) (hs:Same e E)
   (next:∀ ι' W' e' a',Names.le ι ι'→Fits P B ι' H'.ah W'→relE P ι' N D e' a'→Same e' E'→Q .normal a' W'):c.wp P Q a W:=by
 refine wp_mono (vc_ok K0 c k (fun x e h=>x=.normal∧Same e E'∧h=H'.ah) ι H.ah W e a F r (cc e hs _ fun e' h=>⟨rfl,h,rfl⟩)) ?_
 rintro x a' w ⟨ι',h',e',ax,p1,p2,p3,p4,rfl,p6,rfl⟩
 cases x with
 | normal=>exact next ι' w e' a' p1 p2 p3 p6
 | _=>exact p4.elim
end
theorem lift_nil {P:Program} {f:FuncId} {args:List V} {v:V} (ha:flatBs args=true) (hv:oldV (fun _=>false) v=true) (c:ACalls P f args AH0 fun e _=>e=.ret v) (h:AH):ACalls P f args h (pureE v h):=by
 intro B ι W vs F r
 refine (c _ _ W vs (fits0 W) (flat_relL args vs ha r)).mono ?_
 rintro e w' ⟨ι',h',ae,h1,h2,h3,rfl⟩
 have hold:∀ b,b < W.heap.size→w'.heap[b]?=W.heap[b]?:=fun b hb=>(h2.frame b hb).1
 refine ⟨ι,h,.ret v,Names.le_refl _,?_,?_,rfl,rfl⟩
 · exact (F.grow (fun _=>False) hold (fun _ h=>h.elim) h2.os h2.tape h2.output h2.size).rebase (BaseLe.grow F _ hold h2.os h2.tape h2.output h2.size)
 · cases e with
   | returned x=>exact rel_le (ι:=fun _=>none) (fun n L h=>by cases h) (old_rel (ι:=fun _=>none) (fun n hn=>by cases hn) h1 hv h3)
   | panicked c=>exact h3.elim
   | outgrown=>exact h3.elim
noncomputable def B155:Code:=(Tryz.f155.body).getD .skip
noncomputable def asg:Code:=match subC B155 [1,1,1,1,0,1,0] with | .rangeFunc _ _ a _=>a | _=>.skip
noncomputable def bdy:Code:=match subC B155 [1,1,1,1,0,1,0] with | .rangeFunc _ _ _ b=>b | _=>.skip
noncomputable def C0:Code:=subC B155 [0]
noncomputable def C1:Code:=subC B155 [1,0]
noncomputable def C2:Code:=subC B155 [1,1,0]
noncomputable def C3:Code:=subC B155 [1,1,1,0]
noncomputable def C4:Code:=subC B155 [1,1,1,1,0,0]
noncomputable def C5:Code:=subC B155 [1,1,1,1,1]
theorem shape:B155=.seq C0 (.seq C1 (.seq C2 (.seq C3 (.seq (.seq C4 (.block 0 (.rangeFunc (.tmp 31) #[32,33] asg bdy))) C5)))):=by kernel_rfl
noncomputable def exI:CallF:=(exTabM Pg FT hd noMemo pu 60).ex
noncomputable def nx {R:Type} (k:XE→HT→Option R):AExit→XE→HT→Option R:=fun x E H=>match x with
 | .normal=>k E H
 | _=>none
theorem nx_some {R:Type} {k:XE→HT→Option R} {x:AExit} {E:XE} {H:HT} {r:R} (h:nx k x E H=some r):x=.normal∧k E H=some r:=by
 unfold nx at h
 cases x <;> first | exact ⟨rfl,h⟩ | cases h
def args:List V:=[.int .u64 1,.str [],.int .u64 1]
noncomputable def E0:XE:=xInit args 0 .nil fun E=>E
noncomputable def fin5:AExit→XE→HT→Option Unit:=fun x E H=>match x with
 | .ret=>bif sameV (XE.get E 6) (.slc none 0) && sameV (XE.get E 7) (.int .u64 1) then some () else none
 | _=>none
noncomputable def pre:Option (XE × HT) :=
 exC Pg 53 exI pu C0 (nx fun E H=>exC Pg 53 exI pu C1 (nx fun E H=>exC Pg 53 exI pu C2 (nx fun E H=>exC Pg 53 exI pu C3 (nx fun E H=>exC Pg 53 exI pu C4 (nx fun E H=>some (E,H)) E H) E H) E H) E H) E0 HT0
noncomputable def E4:XE:=(pre.getD (.nil,HT0)).1
noncomputable def H4:HT:=(pre.getD (.nil,HT0)).2
theorem pre_eq:pre=some (E4,H4):=by kernel_rfl
def sP:V:=.ptr (some ⟨3,.one 9,[]⟩)
theorem slot31:XE.get E4 31=.fn (.func 266) [] [sP]:=by kernel_rfl
noncomputable def post (l:Nat):Option Unit:=exI Unit 266 [.fn (.yield l) [] [],sP] H4 fun ae H=>match ae with
   | .ret _=>exC Pg 53 exI pu C5 fin5 E4 H
   | .panic _=>none
theorem post_eq (l:Nat):post l=some ():=by kernel_rfl
theorem itemsC0 (hh:HdOk Pg hd):ACalls Pg 155 args AH0 fun e _=>e=.ret (.tup [.slc none 0,.int .u64 1]):=by
 intro B ι W vs F ra
 have hx:CallOk Pg exI:=(exTabM_ok okP tabOk hh noMemo_ok 60).1
 obtain ⟨E0',q1,q2⟩:=xInit_same args
 have hE0:E0=E0':=q1 XE fun E=>E
 have hs0:Same (initEnv 0 args) E0:=hE0▸q2
 have hp:=pre_eq
 unfold pre at hp
 obtain ⟨x,E1,H1,o1,hp,c0⟩:=exC_ok (pu:=pu) hx C0 _ _ _ HT0_own hp
 obtain ⟨rfl,hp⟩:=nx_some hp
 have w1:=o1.own HT0_own
 obtain ⟨x,E2,H2,o2,hp,c1⟩:=exC_ok (pu:=pu) hx C1 _ _ _ w1 hp
 obtain ⟨rfl,hp⟩:=nx_some hp
 have w2:=o2.own w1
 obtain ⟨x,E3,H3,o3,hp,c2⟩:=exC_ok (pu:=pu) hx C2 _ _ _ w2 hp
 obtain ⟨rfl,hp⟩:=nx_some hp
 have w3:=o3.own w2
 obtain ⟨x,E3b,H3b,o3b,hp,c3⟩:=exC_ok (pu:=pu) hx C3 _ _ _ w3 hp
 obtain ⟨rfl,hp⟩:=nx_some hp
 have w3b:=o3b.own w3
 obtain ⟨x,E5,H5,o5,hp,c4⟩:=exC_ok (pu:=pu) hx C4 _ _ _ w3b hp
 obtain ⟨rfl,hp⟩:=nx_some hp
 have w5:=o5.own w3b
 have hp:some (E5,H5)=some (E4,H4):=hp
 simp only [Option.some.injEq,Prod.mk.injEq] at hp
 obtain ⟨e5,h5⟩:=hp
 rw [e5,h5] at c4
 rw [h5] at w5
 rw [← HT0_ah] at F
 refine callsIn_wide (n:=0) |>.1 (callsIn_of_wp_marks Tryz.func155 (show Tryz.f155.body=some B155 from by kernel_rfl) trivial ?_)
 rw [wpIn_wide,shape]
 have hE:relE Pg ι 53 [] (initEnv 0 args) { tmps:=vs.toArray++Array.replicate (Tryz.f155.ntmps - vs.toArray.size) undef,defers:=[] }:=initE (by kernel_rfl) ra
 refine wp_seq (piece okP c0 F hE hs0 fun ι1 W1 e1 a1 l1 F1 r1 s1=>?_)
 refine wp_seq (piece okP c1 F1 r1 s1 fun ι2 W2 e2 a2 l2 F2 r2 s2=>?_)
 refine wp_seq (piece okP c2 F2 r2 s2 fun ι3 W3 e3 a3 l3 F3 r3 s3=>?_)
 refine wp_seq (piece okP c3 F3 r3 s3 fun ι4 W4 e4 a4 l4 F4 r4 s4=>?_)
 refine wp_seq (wp_seq (piece okP c4 F4 r4 s4 fun ι5 W5 e5 a5 l5 F5 r5 s5=>?_))
 have ll:Names.le ι ι5:=Names.le_trans l1 (Names.le_trans l2 (Names.le_trans l3 (Names.le_trans l4 l5)))
 refine wp_block ?_
 rw [← wpIn_wide (n:=0)]
 refine wpIn_rangeFunc fun fn hfn=>?_
 -- the two blocks
 obtain ⟨rec,hrec⟩:∃ rec:Loop,rec={ state:=.ready,pending:=none,fn,tmps:=a5.tmps,params:=#[32,33],assign:=asg,body:=bdy,defers:=W5.heap.size }:=⟨_,rfl⟩
 obtain ⟨Wl,hWl⟩:∃ Wl,(W5.alloc (.deferred (some []))).alloc (.loop rec)=Wl:=⟨_,rfl⟩
 have hL:Wl.heap[W5.heap.size + 1]?=some (.loop rec):=by
   rw [← hWl];have:=World.alloc_heap_new (W5.alloc (.deferred (some []))) (.loop rec);rwa [World.size_alloc] at this
 have hD:Wl.heap[W5.heap.size]?=some (.deferred (some [])):=by
   rw [← hWl];exact (Below.heap_alloc _ _ _ (by simp)).trans (World.alloc_heap_new W5 _)
 have hb:∀ b,b < W5.heap.size→Wl.heap[b]?=W5.heap[b]?:=fun b hb=>by
   rw [← hWl];exact (Below.heap_alloc _ _ _ (by simp;omega)).trans (Below.heap_alloc _ _ _ hb)
 have hsz:Wl.heap.size=W5.heap.size + 2:=by rw [← hWl];simp
 have ho:Wl.os=W5.os:=by rw [← hWl];rfl
 have ht:Wl.tape=W5.tape:=by rw [← hWl];rfl
 have hpp:Wl.output=W5.output:=by rw [← hWl];rfl
 have F6:=F5.grow (W':=Wl) (fun c=>c=W5.heap.size∨c=W5.heap.size + 1) hb (fun b h=>by omega) ho ht hpp (by omega)
 have nD:¬ B.F W5.heap.size:=fun h=>Nat.lt_irrefl _ (F5.frame _ h).2
 have nL:¬ B.F (W5.heap.size + 1):=fun h=>by have:=(F5.frame _ h).2;omega
 -- the iterator
 have hi:=post_eq (W5.heap.size + 1)
 unfold post at hi
 obtain ⟨ae,H6,o6,hi,hent,hc⟩:=hx _ _ _ _ _ _ w5 hi
 cases ae with
 | panic _=>cases hi
 | ret u =>
 have hi:exC Pg 53 exI pu C5 fin5 E4 H6=some ():=hi
 obtain ⟨x,E7,H7,o7,hi,c7⟩:=exC_ok (pu:=pu) hx C5 _ _ _ (o6.own w5) hi
 have hfin:x=.ret∧XE.get E7 6=.slc none 0∧XE.get E7 7=.int .u64 1:=by
   unfold fin5 at hi
   cases x <;> first | (cases hi;done) | skip
   obtain ⟨hb,_⟩:=bif_some hi
   rw [Bool.and_eq_true] at hb
   exact ⟨rfl,sameV_eq _ _ hb.1,sameV_eq _ _ hb.2⟩
 obtain ⟨rfl,g6,g7⟩:=hfin
 have hρ:=rel_opnd r5 (.tmp 31)
 rw [show opnd e5 (.tmp 31)=.fn (.func 266) [] [sP] from (s5 31).trans slot31] at hρ
 obtain ⟨fa,fb,hf1,hf2,hf3⟩:=rel_fn hρ
 simp only [relL] at hf2
 subst hf2
 refine ⟨W5.heap.size + 1,[{ target:=.collected W5.heap.size,args:=#[] }],Wl,{ target:=.fn (.func 266) fb.toArray,args:=#[.func (.yield (W5.heap.size + 1)) #[] #[]] },Wl,266,
   #[.func (.yield (W5.heap.size + 1)) #[] #[]]++fb.toArray,Wl,?_,?_,fun _ _=>trivial,?_,fun h=>by simp [Fence.wide] at h,?_⟩
 · rw [← hWl,hrec];exact run_enterLoop_outer _ _ _ _ _
 · simp only [resolve,hf1]
   simp [go_sem]
 · exact run_callFunc hent _ Wl
 have ry:rel Pg ι5 (.fn (.yield (W5.heap.size + 1)) [] []) (.func (.yield (W5.heap.size + 1)) #[] #[]):=.inr ⟨rfl,[],[],rfl,rfl,rfl⟩
 have hcall:=hc _ ι5 Wl (.func (.yield (W5.heap.size + 1)) #[] #[] :: fb) F6 (relL_cons ry hf3)
 have harr:(Value.func (.yield (W5.heap.size + 1)) #[] #[] :: fb).toArray=#[.func (.yield (W5.heap.size + 1)) #[] #[]]++fb.toArray:=by simp
 rw [harr] at hcall
 refine callsIn_wide.2 (hcall.mono ?_)
 rintro e W6 ⟨ι6,h6,ae',l6,F7,re,rfl,rfl⟩
 cases e with
 | panicked _=>exact re.elim
 | outgrown=>exact re.elim
 | returned v =>
 have hL6:W6.heap[W5.heap.size + 1]?=some (.loop rec):=(F7.frame _ (.inr (.inr rfl))).1.trans hL
 refine ⟨none,W6.putObj (W5.heap.size + 1) (.loop { rec with state:=.exhausted }),?_,?_⟩
 · have:=run_endLoop (P:=Pg) hL6 (by rw [hrec];simp)
   rw [this,hrec]
 -- the rest
 obtain ⟨W7,hW7⟩:∃ W7,W6.putObj (W5.heap.size + 1) (.loop { rec with state:=.exhausted })=W7:=⟨_,rfl⟩
 rw [hW7]
 have F8:Fits Pg ⟨fun c=>B.F c∨c=W5.heap.size,Wl⟩ ι6 H6.ah W7:=by
   rw [← hW7]
   refine fits_put (Fits.rebase (B':=⟨fun c=>B.F c∨(c=W5.heap.size∨c=W5.heap.size + 1),Wl⟩) ⟨fun c hc=>⟨hc.elim .inl fun h=>.inr (.inl h),rfl⟩,rfl,rfl,rfl,Nat.le_refl _⟩ F7) hL6 ⟨fun _ _ _ h=>(by cases h),fun _ _ h=>(by cases h),fun _ _ h=>(by cases h),fun _ _ _ _ h=>(by cases h)⟩ ?_
   rintro (h | h)
   · exact nL h
   · omega
 have r5':=relE_le l6 r5
 have hdef:a5.defers=[]:=r5'.2.1
 have r8:relE Pg ι6 53 [(Pg.funcs.size,[.agg [.und,.int .u64 (W5.heap.size:Int)]])] e5 { a5 with defers:=[{ target:=.collected W5.heap.size,args:=#[] }]++a5.defers } :=
   ⟨r5'.1,⟨_,_,rfl,.inr ⟨Nat.le_refl _,W5.heap.size,rfl,rfl⟩,hdef⟩,r5'.2.2⟩
 show C5.wp Pg _ _ _
 refine wp_mono (vc_ok okP C5 _ (fun x e h=>x=.ret∧Same e E7∧h=H7.ah) ι6 H6.ah W7 e5 _ F8 r8 (c7 e5 s5 _ fun e' h=>⟨rfl,h,rfl⟩)) ?_
 rintro x a w ⟨ι',h',e',ax,p1,p2,p3,p4,rfl,p6,rfl⟩
 cases x with
 | ret =>
   obtain ⟨d,rest,hd,hx8,hr8⟩:=p3.2.1
   have hdm:d={ target:=.collected W5.heap.size,args:=#[] }:=by
     rcases hx8 with ⟨cap,_,hbad⟩ | ⟨_,r,hr,hd⟩
     · exfalso
       obtain ⟨y,ys,h1,_,_⟩:=relL_cons_iff.1 hbad
       rcases h1 with h1 | ⟨_,h1⟩
       · cases h1
       · simp only [relC,relCs] at h1
         obtain ⟨_,_,h1,_⟩:=h1
         exact h1
     · simp only [List.cons.injEq,V.agg.injEq,V.int.injEq,true_and,and_true] at hr
       have:W5.heap.size=r:=by omega
       rw [this];exact hd
   have hrest:rest=[]:=hr8
   have hDw:w.heap[W5.heap.size]?=some (.deferred (some [])):=(p2.frame _ (.inr rfl)).1.trans hD
   have F9:Fits Pg ⟨fun c=>B.F c∨False,Wl⟩ ι' H7.ah (w.putObj W5.heap.size (.deferred none)):=by
     refine fits_put (Fits.rebase (B':=⟨fun c=>B.F c∨c=W5.heap.size,Wl⟩) ⟨fun c hc=>⟨hc.elim .inl fun h=>h.elim,rfl⟩,rfl,rfl,rfl,Nat.le_refl _⟩ p2) hDw ⟨fun _ _ _ h=>(by cases h),fun _ _ h=>(by cases h),fun _ _ h=>(by cases h),fun _ _ _ _ h=>(by cases h)⟩ ?_
     rintro (h | h)
     · exact nD h
     · exact h
   have hres:aRes Pg e' H7.ah Tryz.f155.results.toList=some [.slc none 0,.int .u64 1]:=by
     show aRes Pg e' H7.ah [.tmp 6,.tmp 7]=_
     simp only [aRes,p6 6,p6 7,g6,g7]
   obtain ⟨v,hv1,hv2⟩:=run_results okP F9 p3 hres
   show LeavesInM Fence.wide 0 Pg Tryz.f155 a.tmps _ a.defers .returning w
   rw [hd,hdm,hrest]
   refine ⟨by simp,.inl ⟨W5.heap.size,_,rfl,run_takeDeferred hDw,?_⟩⟩
   exact ⟨v,hv1,ι',H7.ah,.ret (one [.slc none 0,.int .u64 1]),Names.le_trans ll (Names.le_trans l6 p1),F9.rebase (BaseLe.grow F5 (fun _=>False) hb ho ht hpp (by omega)),hv2,rfl⟩
 | _=>exact p4.elim
theorem itemsP (hh:HdOk Pg hd) (h:AH):ACalls Pg 155 args h (pureE (.tup [.slc none 0,.int .u64 1]) h):=lift_nil rfl rfl (itemsC0 hh) h
end Go.Proofs.YtcglbpjpbjaecaaGreat.It
namespace Go.Proofs.YtcglbpjpbjaecaaGreat.So
open Go Go.Ab Go.RowKit Go.Proofs
open Go.Proofs.YtcglbpjpbjaecaaGreat.Ru (Pg okP)
set_option maxRecDepth 100000
def slRen:Go.Shelf.Ren:=⟨fun | 6=>161 | 10=>238 | 11=>239 | 12=>240 | 13=>241 | 14=>242 | 24=>276 | 25=>277 | 26=>278 | 27=>279 | 28=>280 | 29=>281 | 30=>282 | 31=>283 | 32=>284 | 33=>285 | 34=>295 | 35=>296 | 36=>297 | 37=>298 | 38=>299 | 39=>304 | n=>n,fun | 20=>20 | 26=>298 | 35=>386 | 0=>0 | 37=>388 | 3=>3 | 41=>330 | 44=>393 | 49=>31 | 51=>49 | 4=>4 | 54=>429 | 53=>428 | 58=>124 | 5=>5 | 9=>9 | 60=>436 | 64=>439 | 66=>444 | 67=>445 | 17=>17 | 32=>383 | 33=>384 | 82=>458 | 12=>12 | 75=>452 | 76=>453 | 77=>454 | 78=>346 | 79=>455 | 80=>456 | n=>n,fun n=>n⟩
theorem slLay:LaysGg.n6 Tryz.prog slRen:={
 mixed:=by kernel_rfl,
 f6:=Tryz.func161.trans (congrArg some (by kernel_rfl)),
 f10:=Tryz.func238.trans (congrArg some (by kernel_rfl)),
 f11:=Tryz.func239.trans (congrArg some (by kernel_rfl)),
 f12:=Tryz.func240.trans (congrArg some (by kernel_rfl)),
 f13:=Tryz.func241.trans (congrArg some (by kernel_rfl)),
 f14:=Tryz.func242.trans (congrArg some (by kernel_rfl)),
 f24:=Tryz.func276.trans (congrArg some (by kernel_rfl)),
 f25:=Tryz.func277.trans (congrArg some (by kernel_rfl)),
 f26:=Tryz.func278.trans (congrArg some (by kernel_rfl)),
 f27:=Tryz.func279.trans (congrArg some (by kernel_rfl)),
 f28:=Tryz.func280.trans (congrArg some (by kernel_rfl)),
 f29:=Tryz.func281.trans (congrArg some (by kernel_rfl)),
 f30:=Tryz.func282.trans (congrArg some (by kernel_rfl)),
 f31:=Tryz.func283.trans (congrArg some (by kernel_rfl)),
 f32:=Tryz.func284.trans (congrArg some (by kernel_rfl)),
 f33:=Tryz.func285.trans (congrArg some (by kernel_rfl)),
 f34:=Tryz.func295.trans (congrArg some (by kernel_rfl)),
 f35:=Tryz.func296.trans (congrArg some (by kernel_rfl)),
 f36:=Tryz.func297.trans (congrArg some (by kernel_rfl)),
 f37:=Tryz.func298.trans (congrArg some (by kernel_rfl)),
 f38:=Tryz.func299.trans (congrArg some (by kernel_rfl)),
 f39:=Tryz.func304.trans (congrArg some (by kernel_rfl)),
 t0:=Tryz.underlying0,
 a0:=Tryz.isAgg0,
 z0:=Tryz.sizeOf0,
 v0:=Tryz.zeroValue0,
 i0:=by kernel_rfl,
 t3:=Tryz.underlying3,
 a3:=Tryz.isAgg3,
 z3:=Tryz.sizeOf3,
 v3:=Tryz.zeroValue3,
 i3:=by kernel_rfl,
 t4:=Tryz.underlying4,
 a4:=Tryz.isAgg4,
 z4:=Tryz.sizeOf4,
 v4:=Tryz.zeroValue4,
 i4:=by kernel_rfl,
 t5:=Tryz.underlying5,
 a5:=Tryz.isAgg5,
 z5:=Tryz.sizeOf5,
 v5:=Tryz.zeroValue5,
 i5:=by kernel_rfl,
 t9:=Tryz.underlying9,
 a9:=Tryz.isAgg9,
 z9:=Tryz.sizeOf9,
 v9:=Tryz.zeroValue9,
 i9:=by kernel_rfl,
 t12:=Tryz.underlying12,
 a12:=Tryz.isAgg12,
 z12:=Tryz.sizeOf12,
 v12:=Tryz.zeroValue12,
 i12:=by kernel_rfl,
 t17:=Tryz.underlying17,
 a17:=Tryz.isAgg17,
 z17:=Tryz.sizeOf17,
 v17:=Tryz.zeroValue17,
 i17:=by kernel_rfl,
 t20:=Tryz.underlying20,
 a20:=Tryz.isAgg20,
 z20:=Tryz.sizeOf20,
 v20:=Tryz.zeroValue20,
 i20:=by kernel_rfl,
 t26:=Tryz.underlying298,
 a26:=Tryz.isAgg298,
 z26:=Tryz.sizeOf298,
 v26:=Tryz.zeroValue298,
 i26:=by kernel_rfl,
 t32:=Tryz.underlying383,
 a32:=Tryz.isAgg383,
 z32:=Tryz.sizeOf383,
 v32:=Tryz.zeroValue383,
 i32:=by kernel_rfl,
 t33:=Tryz.underlying384,
 a33:=Tryz.isAgg384,
 z33:=Tryz.sizeOf384,
 v33:=Tryz.zeroValue384,
 i33:=by kernel_rfl,
 t35:=Tryz.underlying386,
 a35:=Tryz.isAgg386,
 z35:=Tryz.sizeOf386,
 v35:=Tryz.zeroValue386,
 i35:=by kernel_rfl,
 t37:=Tryz.underlying388,
 a37:=Tryz.isAgg388,
 z37:=Tryz.sizeOf388,
 v37:=Tryz.zeroValue388,
 i37:=by kernel_rfl,
 t41:=Tryz.underlying330,
 a41:=Tryz.isAgg330,
 z41:=Tryz.sizeOf330,
 v41:=Tryz.zeroValue330,
 i41:=by kernel_rfl,
 t44:=Tryz.underlying393,
 a44:=Tryz.isAgg393,
 z44:=Tryz.sizeOf393,
 v44:=Tryz.zeroValue393,
 i44:=by kernel_rfl,
 t49:=Tryz.underlying31,
 a49:=Tryz.isAgg31,
 z49:=Tryz.sizeOf31,
 v49:=Tryz.zeroValue31,
 i49:=by kernel_rfl,
 t51:=Tryz.underlying49,
 a51:=Tryz.isAgg49,
 z51:=Tryz.sizeOf49,
 v51:=Tryz.zeroValue49,
 i51:=by kernel_rfl,
 t53:=Tryz.underlying428,
 a53:=Tryz.isAgg428,
 z53:=Tryz.sizeOf428,
 v53:=Tryz.zeroValue428,
 i53:=by kernel_rfl,
 t54:=Tryz.underlying429,
 a54:=Tryz.isAgg429,
 z54:=Tryz.sizeOf429,
 v54:=Tryz.zeroValue429,
 i54:=by kernel_rfl,
 t58:=Tryz.underlying124,
 a58:=Tryz.isAgg124,
 z58:=Tryz.sizeOf124,
 v58:=Tryz.zeroValue124,
 i58:=by kernel_rfl,
 t60:=Tryz.underlying436,
 a60:=Tryz.isAgg436,
 z60:=Tryz.sizeOf436,
 v60:=Tryz.zeroValue436,
 i60:=by kernel_rfl,
 t64:=Tryz.underlying439,
 a64:=Tryz.isAgg439,
 z64:=Tryz.sizeOf439,
 v64:=Tryz.zeroValue439,
 i64:=by kernel_rfl,
 t66:=Tryz.underlying444,
 a66:=Tryz.isAgg444,
 z66:=Tryz.sizeOf444,
 v66:=Tryz.zeroValue444,
 i66:=by kernel_rfl,
 t67:=Tryz.underlying445,
 a67:=Tryz.isAgg445,
 z67:=Tryz.sizeOf445,
 v67:=Tryz.zeroValue445,
 i67:=by kernel_rfl,
 t75:=Tryz.underlying452,
 a75:=Tryz.isAgg452,
 z75:=Tryz.sizeOf452,
 v75:=Tryz.zeroValue452,
 i75:=by kernel_rfl,
 t76:=Tryz.underlying453,
 a76:=Tryz.isAgg453,
 z76:=Tryz.sizeOf453,
 v76:=Tryz.zeroValue453,
 i76:=by kernel_rfl,
 t77:=Tryz.underlying454,
 a77:=Tryz.isAgg454,
 z77:=Tryz.sizeOf454,
 v77:=Tryz.zeroValue454,
 i77:=by kernel_rfl,
 t78:=Tryz.underlying346,
 a78:=Tryz.isAgg346,
 z78:=Tryz.sizeOf346,
 v78:=Tryz.zeroValue346,
 i78:=by kernel_rfl,
 t79:=Tryz.underlying455,
 a79:=Tryz.isAgg455,
 z79:=Tryz.sizeOf455,
 v79:=Tryz.zeroValue455,
 i79:=by kernel_rfl,
 t80:=Tryz.underlying456,
 a80:=Tryz.isAgg456,
 z80:=Tryz.sizeOf456,
 v80:=Tryz.zeroValue456,
 i80:=by kernel_rfl,
 t82:=Tryz.underlying458,
 a82:=Tryz.isAgg458,
 z82:=Tryz.sizeOf458,
 v82:=Tryz.zeroValue458,
 i82:=by kernel_rfl }
noncomputable def siT:TypeInfo:=(Pg.info? 167).get (by kernel_rfl)
noncomputable def siE:TypeInfo:=(Pg.info? 170).get (by kernel_rfl)
theorem kind170 (w:World):Sem.run Pg (Extern.Rtype.kind 170) w=.ok 25 w:=by kernel_rfl
theorem swp (n:Nat) (h:n≤1):Pg.funcs.findIdx? (·.name == "internal/reflectlite"++".Swapper$"++toString (Lib.swapperK n siE 25))=some (267 + n):=by
 rcases Nat.eq_zero_or_pos n with h0 | h0
 · subst h0;kernel_rfl
 · obtain rfl:n=1:=by omega
   kernel_rfl
theorem tiny (p:Option Addr) (n c:Nat) (h:n≤1) (lf:Fn) (la lb:Array Value) (w:World) :
   Calls Pg 161 #[.iface 167 (.slice p n c),.func lf la lb] w fun e w'=>e=.returned (.tuple #[])∧∃ os,w'=Go.Sort.grow w os :=
 Any.sort_Slice_tiny slLay 167 170 siT siE (by kernel_rfl) (by kernel_rfl) (by kernel_rfl) (by kernel_rfl) 25 kind170 p n c h (267 + n) (swp n h) lf la lb w
theorem sortP (a:Option (PA × Nat)) (n:Nat) (hn:n≤1) (f:Fn) (x y:List V) (h:AH):ACalls Pg 161 [.ifc 167 (.slc a n),.fn f x y] h (pureE (.tup []) h):=by
 intro B ι W vs F r
 obtain ⟨v0,vs0,h0,r0,rfl⟩:=relL_cons_iff.1 r
 obtain ⟨v1,vs1,h1,r1,rfl⟩:=relL_cons_iff.1 r0
 simp only [relL] at r1
 subst r1
 obtain ⟨z,rfl,hz,_⟩:=rel_ifc h0
 obtain ⟨fa,fb,rfl,_,_⟩:=rel_fn h1
 obtain ⟨p,c,rfl⟩:∃ p c,z=.slice p n c:=by
   cases a with
   | none=>obtain ⟨rfl,rfl⟩:=rel_slc_nil hz;exact ⟨none,0,rfl⟩
   | some a=>obtain ⟨q,cap,rfl,_⟩:=rel_slc (a:=a.1) (s:=a.2) hz;exact ⟨some q,cap,rfl⟩
 refine (tiny p n c hn f fa.toArray fb.toArray W).mono ?_
 rintro e w' ⟨rfl,os,rfl⟩
 have hold:∀ b,b < W.heap.size→(Go.Sort.grow W os).heap[b]?=W.heap[b]?:=fun b hb=>Go.Sort.heap_grow_old W os hb
 have hs:W.heap.size≤(Go.Sort.grow W os).heap.size:=by simp
 refine ⟨ι,h,.ret (.tup []),Names.le_refl _,?_,.inr ⟨rfl,[],by simp [relL],by simp [Value.cells]⟩,rfl,rfl⟩
 exact (F.grow (fun _=>False) hold (fun _ h=>h.elim) rfl rfl rfl hs).rebase (BaseLe.grow F _ hold rfl rfl rfl hs)
noncomputable def siT2:TypeInfo:=(Pg.info? 193).get (by kernel_rfl)
noncomputable def siE2:TypeInfo:=(Pg.info? 22).get (by kernel_rfl)
theorem kind22 (w:World):Sem.run Pg (Extern.Rtype.kind 22) w=.ok 9 w:=by kernel_rfl
theorem swp2 (n:Nat) (h:n≤1):Pg.funcs.findIdx? (·.name == "internal/reflectlite"++".Swapper$"++toString (Lib.swapperK n siE2 9))=some (267 + n):=by
 rcases Nat.eq_zero_or_pos n with h0 | h0
 · subst h0;kernel_rfl
 · obtain rfl:n=1:=by omega
   kernel_rfl
theorem tiny2 (p:Option Addr) (n c:Nat) (h:n≤1) (lf:Fn) (la lb:Array Value) (w:World) :
   Calls Pg 161 #[.iface 193 (.slice p n c),.func lf la lb] w fun e w'=>e=.returned (.tuple #[])∧∃ os,w'=Go.Sort.grow w os :=
 Any.sort_Slice_tiny slLay 193 22 siT2 siE2 (by kernel_rfl) (by kernel_rfl) (by kernel_rfl) (by kernel_rfl) 9 kind22 p n c h (267 + n) (swp2 n h) lf la lb w
theorem sortP2 (a:Option (PA × Nat)) (n:Nat) (hn:n≤1) (f:Fn) (x y:List V) (h:AH):ACalls Pg 161 [.ifc 193 (.slc a n),.fn f x y] h (pureE (.tup []) h):=by
 intro B ι W vs F r
 obtain ⟨v0,vs0,h0,r0,rfl⟩:=relL_cons_iff.1 r
 obtain ⟨v1,vs1,h1,r1,rfl⟩:=relL_cons_iff.1 r0
 simp only [relL] at r1
 subst r1
 obtain ⟨z,rfl,hz,_⟩:=rel_ifc h0
 obtain ⟨fa,fb,rfl,_,_⟩:=rel_fn h1
 obtain ⟨p,c,rfl⟩:∃ p c,z=.slice p n c:=by
   cases a with
   | none=>obtain ⟨rfl,rfl⟩:=rel_slc_nil hz;exact ⟨none,0,rfl⟩
   | some a=>obtain ⟨q,cap,rfl,_⟩:=rel_slc (a:=a.1) (s:=a.2) hz;exact ⟨some q,cap,rfl⟩
 refine (tiny2 p n c hn f fa.toArray fb.toArray W).mono ?_
 rintro e w' ⟨rfl,os,rfl⟩
 have hold:∀ b,b < W.heap.size→(Go.Sort.grow W os).heap[b]?=W.heap[b]?:=fun b hb=>Go.Sort.heap_grow_old W os hb
 have hs:W.heap.size≤(Go.Sort.grow W os).heap.size:=by simp
 refine ⟨ι,h,.ret (.tup []),Names.le_refl _,?_,.inr ⟨rfl,[],by simp [relL],by simp [Value.cells]⟩,rfl,rfl⟩
 exact (F.grow (fun _=>False) hold (fun _ h=>h.elim) rfl rfl rfl hs).rebase (BaseLe.grow F _ hold rfl rfl rfl hs)
end Go.Proofs.YtcglbpjpbjaecaaGreat.So
namespace Go.Proofs.YtcglbpjpbjaecaaGreat.Sh
open Go Go.Ab Go.RowKit
open Go.Proofs.YtcglbpjpbjaecaaGreat.Ru (Pg okP)
set_option maxRecDepth 100000
noncomputable def B265:Code:=(Tryz.f265.body).getD .skip
def R265:List ResultVar:=[.tmp 4]
abbrev N265:Nat:=28
def K265:KT:=(.seq .leaf (.seq .leaf (.join (.seq .leaf (.one (.loop (.join (.seq .leaf (.two .leaf .leaf) [1,5,6,12]) (.join (.one (.seq .leaf (.seq .leaf (.one (.loop (.seq .leaf (.join (.two .leaf .leaf) (.join (.one .leaf) .leaf [1,5,6,21]) [1,5,6,21]) [1,5,6,21,22]) [1,5,6,21])) [1,5,6,21]) [1,5,6])) .leaf [1,5,6]) [1,5,6]) [1,5,6])) [1,5,6]) (.seq .leaf .leaf [4]) [5]) [1,5]) [0,1])
def Jz4x (Q:AEnd→AH→Prop) (n n1:Nat) (x1 x5 x6 x21:V) (h:AH):Prop:=vcAt Pg N265 B265 K265 [1,1,0,1,0,0,1,0,0,1,1,0,0,1,1,1] [n,n1] (vcRet Pg R265 Q) [(1,x1),(5,x5),(6,x6),(21,x21)] h
def Jz4w (Q:AEnd→AH→Prop) (n n1:Nat) (x1 x5 x6 x21:V) (h:AH):Prop:=vcAt Pg N265 B265 K265 [1,1,0,1,0,0,1,0,0,1,1,0,0,1,1] [n,n1] (vcRet Pg R265 Q) [(1,x1),(5,x5),(6,x6),(21,x21)] h
def Jz4y (Q:AEnd→AH→Prop) (n:Nat) (x1 x5 x6:V) (h:AH):Prop:=vcAt Pg N265 B265 K265 [1,1,0,1,0,0,1,1] [n] (vcRet Pg R265 Q) [(1,x1),(5,x5),(6,x6)] h
def Lz6a (Q:AEnd→AH→Prop) (n:Nat) (n1:Nat) (x1 x5 x6 x21:V) (h:AH):Prop:=loopAt Pg N265 B265 K265 [1,1,0,1,0,0,1,0,0,1,1,0] [n] n1 (vcRet Pg R265 Q) [(1,x1),(5,x5),(6,x6),(21,x21)] h
def Jz4v (Q:AEnd→AH→Prop) (n:Nat) (x1 x5 x6:V) (h:AH):Prop:=vcAt Pg N265 B265 K265 [1,1,0,1,0,0,1] [n] (vcRet Pg R265 Q) [(1,x1),(5,x5),(6,x6)] h
def Jz4z (Q:AEnd→AH→Prop) (x5:V) (h:AH):Prop:=vcAt Pg N265 B265 K265 [1,1,1] [] (vcRet Pg R265 Q) [(5,x5)] h
def Lz69 (Q:AEnd→AH→Prop) (n:Nat) (x1 x5 x6:V) (h:AH):Prop:=loopAt Pg N265 B265 K265 [1,1,0,1,0] [] n (vcRet Pg R265 Q) [(1,x1),(5,x5),(6,x6)] h
theorem Jz4x_eq (Q:AEnd→AH→Prop) (n n1:Nat) (x1 x5 x6 x21:V) (h:AH):Jz4x Q n n1 x1 x5 x6 x21 h=(
 bindV (still (aBin Pg .add 3 x21 (V.int .i64 1) true) h) fun v17 h18 =>
 Meet (Lz6a Q n n1 x1 x5 x6 v17 h18)):=by kernel_rfl
theorem Jz4w_eq (Q:AEnd→AH→Prop) (n n1:Nat) (x1 x5 x6 x21:V) (h:AH):Jz4w Q n n1 x1 x5 x6 x21 h=(
 ACalls Pg 294 [x5] h (aEnd (fun v15 h16 =>
 Meet (Jz4x Q n n1 x1 v15 x6 x21 h16)) fun v h=>Q (.panic v) h)):=by kernel_rfl
theorem Jz4y_eq (Q:AEnd→AH→Prop) (n:Nat) (x1 x5 x6:V) (h:AH):Jz4y Q n x1 x5 x6 h=(
 bindV (still (aBin Pg .add 3 x6 (V.int .i64 1) true) h) fun v19 h20 =>
 Meet (Lz69 Q n x1 x5 v19 h20)):=by kernel_rfl
theorem Lz6a_eq (Q:AEnd→AH→Prop) (n:Nat) (n1:Nat) (x1 x5 x6 x21:V) (h:AH):Lz6a Q n (n1 + 1) x1 x5 x6 x21 h=(
 bindV (still (aBin Pg .lss 3 x21 (V.int .i64 8) true) h) fun v13 h14 =>
 vcIf v13 (
 Meet (Jz4w Q n n1 x1 x5 x6 x21 h14)) (
 Meet (Jz4y Q n x1 x5 x6 h14))):=by kernel_rfl
theorem Jz4v_eq (Q:AEnd→AH→Prop) (n:Nat) (x1 x5 x6:V) (h:AH):Jz4v Q n x1 x5 x6 h=(
 bindV (still (aIndex Pg 9 x1 x6) h) fun v7 h8 =>
 bindV (still (aConv Pg h8 5 31 v7) h8) fun v9 h10 =>
 bindV (still (aBin Pg .xor 31 x5 v9 false) h10) fun v11 h12 =>
 ∃ n1,Meet (Lz6a Q n n1 x1 v11 x6 (V.int .i64 0) h12)):=by kernel_rfl
theorem Jz4z_eq (Q:AEnd→AH→Prop) (x5:V) (h:AH):Jz4z Q x5 h=(
 bindV (still (aUn .xor x5) h) fun v21 h22 =>
 Q (.ret v21) h22):=by kernel_rfl
theorem Lz69_eq (Q:AEnd→AH→Prop) (n:Nat) (x1 x5 x6:V) (h:AH):Lz69 Q (n + 1) x1 x5 x6 h=(
 bindV (aBuiltin Pg h .len [9] [x1]) fun v3 h4 =>
 bindV (still (aBin Pg .lss 3 x6 v3 false) h4) fun v5 h6 =>
 vcIf v5 (
 Meet (Jz4v Q n x1 x5 x6 h6)) (
 Meet (Jz4z Q x5 h6))):=by kernel_rfl
theorem S265 (Q:AEnd→AH→Prop) (a0 a1:V) (h:AH):vc Pg N265 B265 K265 (vcRet Pg R265 Q) (initEnv 0 [a0,a1]) h=(
 bindV (still (aUn .xor a0) h) fun v1 h2 =>
 ∃ n,Meet (Lz69 Q n a1 v1 (V.int .i64 0) h2)):=by kernel_rfl
theorem C265 (Q:AEnd→AH→Prop) (a0 a1:V) (h:AH) (c :
 bindV (still (aUn .xor a0) h) fun v1 h2 =>
 ∃ n,Meet (Lz69 Q n a1 v1 (V.int .i64 0) h2)):ACalls Pg 265 [a0,a1] h Q :=
 acalls_of_vc okP Tryz.func265 (show Tryz.f265.body=some B265 from by kernel_rfl) K265 (by rw [← S265 Q a0 a1 h] at c;exact c)
noncomputable def B294:Code:=(Tryz.f294.body).getD .skip
def R294:List ResultVar:=[.tmp 2]
abbrev N294:Nat:=10
def K294:KT:=(.seq .leaf (.seq .leaf .leaf [2]) [0])
theorem S294 (Q:AEnd→AH→Prop) (a0:V) (h:AH):vc Pg N294 B294 K294 (vcRet Pg R294 Q) (initEnv 0 [a0]) h=(
 bindV (still (aBin Pg .shr 31 a0 (V.int .u64 1) true) h) fun v1 h2 =>
 bindV (still (aBin Pg .and 31 a0 (V.int .u32 1) true) h2) fun v3 h4 =>
 bindV (still (aUn .neg v3) h4) fun v5 h6 =>
 bindV (still (aBin Pg .and 31 (V.int .u32 3988292384) v5 true) h6) fun v7 h8 =>
 bindV (still (aBin Pg .xor 31 v1 v7 false) h8) fun v9 h10 =>
 Q (.ret v9) h10):=by kernel_rfl
theorem C294 (Q:AEnd→AH→Prop) (a0:V) (h:AH) (c :
 bindV (still (aBin Pg .shr 31 a0 (V.int .u64 1) true) h) fun v1 h2 =>
 bindV (still (aBin Pg .and 31 a0 (V.int .u32 1) true) h2) fun v3 h4 =>
 bindV (still (aUn .neg v3) h4) fun v5 h6 =>
 bindV (still (aBin Pg .and 31 (V.int .u32 3988292384) v5 true) h6) fun v7 h8 =>
 bindV (still (aBin Pg .xor 31 v1 v7 false) h8) fun v9 h10 =>
 Q (.ret v9) h10):ACalls Pg 294 [a0] h Q :=
 acalls_of_vc okP Tryz.func294 (show Tryz.f294.body=some B294 from by kernel_rfl) K294 (by rw [← S294 Q a0 h] at c;exact c)
end Go.Proofs.YtcglbpjpbjaecaaGreat.Sh
namespace Go.Proofs.YtcglbpjpbjaecaaGreat.Sh
open Go Go.Ab Go.RowKit
open Go.Proofs.YtcglbpjpbjaecaaGreat.Ru (Pg okP crcStep crc8 crcGo)
set_option maxRecDepth 10000
theorem bv32 (v:Nat) (h:v < 4294967296):(BitVec.ofInt 32 (v:Int)).toNat=v:=by
 rw [BitVec.toNat_ofInt]
 have:((v:Int) % ((2 ^ 32:Nat):Int)).toNat=v % 2 ^ 32:=by omega
 rw [this];exact Nat.mod_eq_of_lt (by simpa using h)
theorem xor32 (a b:Nat) (ha:a < 4294967296) (hb:b < 4294967296):bitI .xor .u32 (a:Int) (b:Int)=((Nat.xor a b:Nat):Int)∧Nat.xor a b < 4294967296:=by
 have h3:(a ^^^ b) < 2 ^ 32:=Nat.xor_lt_two_pow (by simpa using ha) (by simpa using hb)
 have h4:(a ^^^ b) < 4294967296:=by simpa using h3
 refine ⟨?_,h4⟩
 simp only [bitI]
 have:((BitVec.ofInt IntKind.u32.bits (a:Int) ^^^ BitVec.ofInt IntKind.u32.bits (b:Int)).toNat)=a ^^^ b:=by
   show (BitVec.ofInt 32 (a:Int) ^^^ BitVec.ofInt 32 (b:Int)).toNat=a ^^^ b
   rw [BitVec.toNat_xor,bv32 a ha,bv32 b hb]
 rw [this,wrap_u32]
 show _=((a ^^^ b:Nat):Int)
 exact Int.emod_eq_of_lt (by omega) (by omega)
theorem and1 (a:Nat) (ha:a < 4294967296):bitI .and .u32 (a:Int) 1=((a % 2:Nat):Int):=by
 simp only [bitI]
 have:((BitVec.ofInt IntKind.u32.bits (a:Int) &&& BitVec.ofInt IntKind.u32.bits 1).toNat)=a % 2:=by
   show (BitVec.ofInt 32 (a:Int) &&& BitVec.ofInt 32 ((1:Nat):Int)).toNat=a % 2
   rw [BitVec.toNat_and,bv32 a ha,bv32 1 (by decide),Nat.and_one_is_mod]
 rw [this,wrap_u32]
 exact Int.emod_eq_of_lt (by omega) (by omega)
theorem step_eq (x:Nat):crcStep x=Nat.xor (x / 2) (3988292384 * (x % 2)):=by
 unfold crcStep
 have h1:Nat.shiftRight x 1=x / 2:=rfl
 have h2:Nat.land x 1=x % 2:=Nat.and_one_is_mod x
 rw [h1,h2]
 rfl
theorem step_lt (x:Nat) (hx:x < 4294967296):crcStep x < 4294967296:=by
 rw [step_eq]
 have h:3988292384 * (x % 2) < 4294967296:=by omega
 exact (xor32 (x / 2) _ (by omega) h).2
theorem stepP (x:Nat) (hx:x < 4294967296) (h:AH):ACalls Pg 294 [.int .u32 (x:Int)] h (pureE (.int .u32 ((crcStep x:Nat):Int)) h):=by
 refine C294 _ _ _ ?_
 refine bindS_mk (b_shr (by decide)) ?_
 have e1:shrI .u32 (x:Int) 1=((x / 2:Nat):Int):=by
   show (x:Int) / 2 ^ 1=_
   omega
 rw [e1]
 refine bindS_mk b_and ?_
 rw [and1 x hx]
 refine bindS_mk (show aUn .neg (.int .u32 ((x % 2:Nat):Int))=some (.int .u32 (IntKind.u32.wrap (0 - ((x % 2:Nat):Int)))) from rfl) ?_
 refine bindS_mk b_and ?_
 have e2:bitI .and .u32 3988292384 (IntKind.u32.wrap (0 - ((x % 2:Nat):Int)))=((3988292384 * (x % 2):Nat):Int):=by
   rcases Nat.mod_two_eq_zero_or_one x with h | h
   · rw [h];decide +kernel
   · rw [h];decide +kernel
 rw [e2]
 refine bindS_mk b_xor ?_
 rw [(xor32 (x / 2) (3988292384 * (x % 2)) (by omega) (by omega)).1,step_eq]
 exact ⟨rfl,rfl⟩
theorem crc8_lt:∀ (n x:Nat),x < 4294967296→crc8 n x < 4294967296
 | 0,x,h=>h
 | n + 1,x,h=>crc8_lt n _ (step_lt x h)
theorem inner (q:AEnd→Prop) (s:V) (i:V) (n1:Nat) (h:AH) (next:Nat→Nat→Prop)
   (c:∀ x,x < 4294967296→next x 0→Jz4y (fun e _=>q e) n1 s (.int .u32 (x:Int)) i h)
   (hn:∀ x m,next x (m + 1)→next (crcStep x) m):∀ (m n x:Nat),m≤8→m < n→x < 4294967296→next x m→Lz6a (fun e _=>q e) n1 n s (.int .u32 (x:Int)) i (.int .i64 ((8 - m:Nat):Int)) h
 | m,0,x,_,hmn,_,_=>absurd hmn (by omega)
 | 0,n + 1,x,_,_,hx,hk=>by
   rw [Lz6a_eq]
   refine bindS_mk (b_lss_f (by omega)) ?_
   refine i_f ?_
   exact Meet.of (c x hx hk)
 | m + 1,n + 1,x,hm,hmn,hx,hk=>by
   rw [Lz6a_eq]
   refine bindS_mk (b_lss_t (by omega)) ?_
   refine i_t ?_
   refine Meet.of (cast_p (Jz4w_eq _ _ _ _ _ _ _ _) ?_)
   refine call_mk (stepP x hx h) ?_
   refine Meet.of (cast_p (Jz4x_eq _ _ _ _ _ _ _ _) ?_)
   refine bindS_mk (c_inc (by omega)) ?_
   have e:8 - (m + 1) + 1=8 - m:=by omega
   rw [e]
   exact Meet.of (inner q s i n1 h next c hn m n (crcStep x) (by omega) (by omega) (step_lt x hx) (hn x m hk))
end Go.Proofs.YtcglbpjpbjaecaaGreat.Sh
namespace Go.Proofs.YtcglbpjpbjaecaaGreat.Sh
open Go Go.Ab Go.RowKit
open Go.Proofs.YtcglbpjpbjaecaaGreat.Ru (Pg okP crcStep crc8 crcGo crcMore)
set_option maxRecDepth 10000
theorem str9:strT Pg 9=true:=by kernel_rfl
theorem crcGo_cons (b:UInt8) (t:List UInt8) (r:Nat):crcGo (b :: t) r=crcGo t (crc8 8 (Nat.xor r b.toNat)):=by
 simp only [crcGo]
 rw [fNat_eq]
theorem outer (q:AEnd→Prop) (h:AH) (s:List UInt8) (hs:s.length < 1000000):∀ (t:List UInt8) (i n r:Nat),s.drop i=t→i + t.length=s.length→t.length < n→r < 4294967296 →
   q (.ret (.int .u32 ((Nat.xor (crcGo t r) 4294967295:Nat):Int)))→Lz69 (fun e _=>q e) n (.str s) (.int .u32 (r:Int)) (.int .i64 (i:Int)) h
 | t,i,0,r,_,_,hn,_,_=>absurd hn (by omega)
 | [],i,n + 1,r,hd,hl,_,hr,c=>by
   rw [Lz69_eq]
   simp only [List.length_nil] at hl
   refine bindV_mk (len_str (by kernel_rfl)) ?_
   refine bindS_mk (b_lss_f (by omega)) ?_
   refine i_f ?_
   refine Meet.of (cast_p (Jz4z_eq _ _ _) ?_)
   refine bindS_mk (show aUn .xor (.int .u32 (r:Int))=some (.int .u32 (bitI .xor .u32 ((4294967295:Nat):Int) (r:Int))) from rfl) ?_
   rw [(xor32 4294967295 r (by decide) hr).1]
   have e:Nat.xor 4294967295 r=Nat.xor (crcGo [] r) 4294967295:=by
     simp only [crcGo]
     exact Nat.xor_comm _ _
   rw [e]
   exact c
 | b :: t,i,n + 1,r,hd,hl,hn,hr,c=>by
   rw [Lz69_eq]
   simp only [List.length_cons] at hl hn
   have hi:i < s.length:=by omega
   have hb:s.getD i 0=b:=by
     have:=congrArg (fun l=>l[0]?) hd
     simp only [List.getElem?_drop,Nat.add_zero,List.getElem?_cons_zero] at this
     rw [List.getD_eq_getElem?_getD,this];rfl
   have hbt:=b.toNat_lt
   refine bindV_mk (len_str (by kernel_rfl)) ?_
   refine bindS_mk (b_lss_t (by omega)) ?_
   refine i_t ?_
   refine Meet.of (cast_p (Jz4v_eq _ _ _ _ _ _) ?_)
   refine bindS_mk (ix_str str9 hi) ?_
   rw [hb]
   refine bindS_mk (cv_int (d:=31) .u32 (by kernel_rfl)) ?_
   have e1:IntKind.u32.wrap (b.toNat:Int)=(b.toNat:Int):=by rw [wrap_u32];omega
   rw [e1]
   refine bindS_mk b_xor ?_
   have hx:=xor32 r b.toNat hr (by omega)
   rw [hx.1]
   refine ⟨9,Meet.of ?_⟩
   have hlt:=crc8_lt 8 _ hx.2
   refine inner q (.str s) (.int .i64 (i:Int)) n h (fun x m=>crc8 m x=crc8 8 (Nat.xor r b.toNat)) (fun x hx' hk=>?_) (fun x m hk=>hk) 8 9 (Nat.xor r b.toNat) (by omega) (by omega) hx.2 rfl
   have hk:x=crc8 8 (Nat.xor r b.toNat):=hk
   rw [Jz4y_eq]
   refine bindS_mk (c_inc (by omega)) ?_
   refine Meet.of ?_
   rw [hk]
   refine outer q h s hs t (i + 1) n _ ?_ (by omega) (by omega) hlt ?_
   · rw [← List.drop_drop,hd];rfl
   · rw [crcGo_cons] at c;exact c
theorem moreP (r:Nat) (hr:r < 4294967296) (s:List UInt8) (hs:s.length < 1000000) (h:AH):ACalls Pg 265 [.int .u32 (r:Int),.str s] h (pureE (.int .u32 ((crcMore r s:Nat):Int)) h):=by
 refine pure_lift rfl rfl (C265 _ _ _ _ ?_) h
 refine bindS_mk (show aUn .xor (.int .u32 (r:Int))=some (.int .u32 (bitI .xor .u32 ((4294967295:Nat):Int) (r:Int))) from rfl) ?_
 have hx:=xor32 4294967295 r (by decide) hr
 rw [hx.1]
 refine ⟨s.length + 1,Meet.of ?_⟩
 refine outer (fun e=>e=.ret (.int .u32 ((crcMore r s:Nat):Int))) AH0 s hs s 0 (s.length + 1) _ rfl (by omega) (by omega) hx.2 ?_
 have e:Nat.xor 4294967295 r=Nat.xor r 4294967295:=Nat.xor_comm _ _
 rw [e]
 rfl
end Go.Proofs.YtcglbpjpbjaecaaGreat.Sh
namespace Go.Proofs.YtcglbpjpbjaecaaGreat.Ru
open Go Go.Ab Go.RowKit
set_option maxRecDepth 10000
noncomputable def hdW:HdF:=fun f a=>match Nat.beq f 161 with
 | true=>(match a with
   | [.ifc t (.slc p n),.fn g x y]=>bif Nat.beq t 167 && Nat.ble n 1 then some (.tup []) else none
   | _=>none)
 | false=>match Nat.beq f 155 with
   | true=>bif sameVs a It.args then some (.tup [.slc none 0,.int .u64 1]) else none
   | false=>hd f a
theorem hdW_ok (hh:HdOk Pg hd):HdOk Pg hdW:=by
 intro f args v hv
 unfold hdW at hv
 split at hv
 · rename_i hf
   obtain rfl:=Nat.eq_of_beq_eq_true hf
   split at hv
   · obtain ⟨hc,hv2⟩:=bif_some hv
     clear hv
     rw [Bool.and_eq_true] at hc
     have h1:=Nat.eq_of_beq_eq_true hc.1
     subst h1
     simp only [Option.some.injEq] at hv2;subst hv2
     exact ⟨by kernel_rfl,fun h=>So.sortP _ _ (Nat.le_of_ble_eq_true hc.2) _ _ _ h⟩
   · cases hv
 · split at hv
   · rename_i hf
     obtain rfl:=Nat.eq_of_beq_eq_true hf
     obtain ⟨hc,hv2⟩:=bif_some hv
     clear hv
     have h1:=sameVs_eq _ _ hc
     subst h1
     simp only [Option.some.injEq] at hv2;subst hv2
     exact ⟨by kernel_rfl,fun h=>It.itemsP hh h⟩
   · exact hh f args v hv
end Go.Proofs.YtcglbpjpbjaecaaGreat.Ru
namespace Go.Proofs.YtcglbpjpbjaecaaGreat.Sh
open Go Go.Ab Go.RowKit
open Go.Proofs.YtcglbpjpbjaecaaGreat.Ru (Pg okP)
set_option maxRecDepth 100000
noncomputable def B246:Code:=(Tryz.f246.body).getD .skip
def R246:List ResultVar:=[.tmp 2]
abbrev N246:Nat:=20
def K246:KT:=(.seq .leaf (.seq .leaf (.join (.seq .leaf (.one (.loop (.seq .leaf (.join (.two .leaf .leaf) (.one (.seq .leaf .leaf [3,4,6])) [3,6]) [3,6,8]) [3,6])) [3,6]) (.seq .leaf (.seq .leaf .leaf [2]) [3]) [3]) [0,3]) [0])
def Jz4s (Q:AEnd→AH→Prop) (n:Nat) (x3 x6:V) (h:AH):Prop:=vcAt Pg N246 B246 K246 [1,1,0,1,0,0,1,1] [n] (vcRet Pg R246 Q) [(3,x3),(6,x6)] h
def Jz4t (Q:AEnd→AH→Prop) (x3:V) (h:AH):Prop:=vcAt Pg N246 B246 K246 [1,1,1] [] (vcRet Pg R246 Q) [(3,x3)] h
def Lz68 (Q:AEnd→AH→Prop) (n:Nat) (x3 x6:V) (h:AH):Prop:=loopAt Pg N246 B246 K246 [1,1,0,1,0] [] n (vcRet Pg R246 Q) [(3,x3),(6,x6)] h
theorem Jz4s_eq (Q:AEnd→AH→Prop) (n:Nat) (x3 x6:V) (h:AH):Jz4s Q n x3 x6 h=(
 vcEntry x6 h fun v9 h10 =>
 bindV (still (aExtract v9 0) h10) fun v11 h12 =>
 bindV (aLoadV Pg h12 193 x3) fun v13 h14 =>
 bindV (aBuildSlice Pg h14 193 1 [(0,v11)]) fun v15 h16 =>
 bindV (aBuiltin Pg h16 .append [193,193] [v13,v15]) fun v17 h18 =>
 bindV (aStoreV Pg h18 193 x3 v17) fun _ h20 =>
 Meet (Lz68 Q n x3 x6 h20)):=by kernel_rfl
theorem Jz4t_eq (Q:AEnd→AH→Prop) (x3:V) (h:AH):Jz4t Q x3 h=(
 bindV (aLoadV Pg h 193 x3) fun v21 h22 =>
 bindV (still (aIface Pg 193 v21) h22) fun v23 h24 =>
 ACalls Pg 161 [v23,(V.fn (.func 286) [] [x3])] h24 (aEnd (fun v25 h26 =>
 bindV (aLoadV Pg h26 193 x3) fun v27 h28 =>
 Q (.ret v27) h28) fun v h=>Q (.panic v) h)):=by kernel_rfl
theorem Lz68_eq (Q:AEnd→AH→Prop) (n:Nat) (x3 x6:V) (h:AH):Lz68 Q (n + 1) x3 x6 h=(
 vcNextM x6 h fun v5 h6 =>
 bindV (still (aExtract v5 0) h6) fun v7 h8 =>
 vcIf v7 (
 Meet (Jz4s Q n x3 x6 h8)) (
 Meet (Jz4t Q x3 h8))):=by kernel_rfl
theorem S246 (Q:AEnd→AH→Prop) (a0:V) (h:AH):vc Pg N246 B246 K246 (vcRet Pg R246 Q) (initEnv 0 [a0]) h=(
 bindV (aAlloc Pg h 193) fun v1 h2 =>
 vcRange Pg 395 a0 h2 fun v3 h4 =>
 ∃ n,Meet (Lz68 Q n v1 v3 h4)):=by kernel_rfl
theorem C246 (Q:AEnd→AH→Prop) (a0:V) (h:AH) (c :
 bindV (aAlloc Pg h 193) fun v1 h2 =>
 vcRange Pg 395 a0 h2 fun v3 h4 =>
 ∃ n,Meet (Lz68 Q n v1 v3 h4)):ACalls Pg 246 [a0] h Q :=
 acalls_of_vc okP Tryz.func246 (show Tryz.f246.body=some B246 from by kernel_rfl) K246 (by rw [← S246 Q a0 h] at c;exact c)
end Go.Proofs.YtcglbpjpbjaecaaGreat.Sh
namespace Go.Proofs.YtcglbpjpbjaecaaGreat.Sh
open Go Go.Ab Go.RowKit
open Go.Proofs.YtcglbpjpbjaecaaGreat.Ru (Pg okP)
set_option maxRecDepth 100000
theorem z193:zeroV Pg 193=some (.slc none 0):=by kernel_rfl
theorem s193 (a:Option (PA × Nat)) (n:Nat):hasShape Pg (.slc a n) 193=true:=by kernel_rfl
theorem u395:ul Pg 395=some (.map 22 399):=by kernel_rfl
theorem b22:Pg.bytesOf 22=2:=by kernel_rfl
theorem callS {f:FuncId} {args:List V} {h:AH} {v:V} {K X:V→AH→Prop} (c:ACalls Pg f args h (pureE v h)) (k:K v h):ACalls Pg f args h (aEnd K X) :=
 c.mono fun e h' q=>by
   cases e with
   | ret u=>obtain ⟨rfl,rfl⟩:=q;exact k
   | panic _=>exact q.elim
theorem tail246 (q:AEnd→AH→Prop) (b:Nat) (a:Option (PA × Nat)) (n:Nat) (hn:n≤1) (h:AH) (hb:h.m b=some (.cells true (.one 193) (.slc a n))) (k:q (.ret (.slc a n)) h):Jz4t q (.ptr (some ⟨b,.one 193,[]⟩)) h:=by
 rw [Jz4t_eq]
 refine bindV_mk (ld_mk hb (by kernel_rfl) rfl) ?_
 refine bindS_mk (show aIface Pg 193 (.slc a n)=some (.ifc 193 (.slc a n)) by kernel_rfl) ?_
 refine callS (So.sortP2 a n hn _ _ _ h) ?_
 exact bindV_mk (ld_mk hb (by kernel_rfl) rfl) k
theorem sorted0 (n:Nat) (h:AH) (hn:n < h.next) (hm:h.m n=some (.mp 22 399 [])):ACalls Pg 246 [.map (some n)] h (pureE (.slc none 0) h):=by
 refine acalls_forget (by rfl) (C246 _ _ _ ?_)
 refine bindV_mk (al_mk z193 (s193 _ _)) ?_
 have hm1:(h.make (.cells true (.one 193) (.slc none 0))).m n=some (.mp 22 399 []):=by rw [make_m,if_neg (by omega),hm]
 refine ⟨⟨22,399,u395⟩,?_⟩
 simp only [hm1]
 intro st clock hl hlt hnd
 obtain rfl:st=[]:=List.length_eq_zero_iff.1 hl
 refine ⟨1,Meet.of ?_⟩
 rw [Lz68_eq]
 generalize hg:((h.make (.cells true (.one 193) (.slc none 0))).put n (.mps 22 399 [] [] clock)).make (.mit (some n) clock [] clock)=h2
 have e2:h2.next=h.next + 2:=by rw [← hg,make_next,put_next,make_next]
 have g1:h2.m n=some (.mps 22 399 [] [] clock):=by rw [← hg,make_m,if_neg (by rw [put_next,make_next];omega),put_m,if_pos rfl]
 have g2:h2.m h.next=some (.cells true (.one 193) (.slc none 0)):=by rw [← hg,make_m,if_neg (by rw [put_next,make_next];omega),put_m,if_neg (by omega),make_m,if_pos rfl]
 have g3:∀ i,i < h.next→i≠n→h2.m i=h.m i:=fun i hi hne=>by rw [← hg,make_m,if_neg (by rw [put_next,make_next];omega),put_m,if_neg hne,make_m,if_neg (by omega)]
 have g4:h2.m (h.next + 1)=some (.mit (some n) clock [] clock):=by rw [← hg,make_m,if_pos (by rw [put_next,make_next])]
 have hit:itV (h.make (.cells true (.one 193) (.slc none 0))).next=.ptr (some ⟨h.next + 1,.one 0,[]⟩):=rfl
 show vcNextM (itV (h.make (.cells true (.one 193) (.slc none 0))).next) h2 _
 rw [hit]
 refine nextM_mk g4 g1 rfl rfl (fun i k v b he=>by simp at he) fun _=>?_
 refine bindS_mk (show aExtract _ _=some (.bool false) from rfl) ?_
 refine i_f (Meet.of ?_)
 refine tail246 _ h.next none 0 (by omega) _ ?_ ?_
 · show (h2.put n (.mp 22 399 [])).m h.next=_
   rw [put_m,if_neg (by omega),g2]
 · refine ⟨rfl,fun i hi=>?_⟩
   by_cases e:i=n
   · subst e;rw [put_m,if_pos rfl,hm]
   · rw [put_m,if_neg e,g3 i hi e]
theorem sorted1 (n:Nat) (h:AH) (hn:n < h.next) (k:Int) (v:V) (hm:h.m n=some (.mp 22 399 [(.int .u16 k,v)])) (h2:AH) (hx:h2.next=h.next + 4)
   (hs:∀ i o,h2.m i=some o→(i=h.next + 3∧o=.cells true (.row 22) (.agg [.int .u16 k]))∨h.m i=some o) :
   ACalls Pg 246 [.map (some n)] h fun e h'=>e=.ret (.slc (some (⟨h.next + 3,.row 22,[]⟩,0)) 1)∧h'=h2:=by
 have c:ACalls Pg 246 [.map (some n)] h fun e h'=>e=.ret (.slc (some (⟨h.next + 3,.row 22,[]⟩,0)) 1)∧(h'.next=h.next + 4∧h'.m (h.next + 3)=some (.cells true (.row 22) (.agg [.int .u16 k]))∧∀ i,i < h.next→h'.m i=h.m i):=by
   refine C246 _ _ _ ?_
   refine bindV_mk (al_mk z193 (s193 _ _)) ?_
   have hm1:(h.make (.cells true (.one 193) (.slc none 0))).m n=some (.mp 22 399 [(.int .u16 k,v)]):=by rw [make_m,if_neg (by omega),hm]
   refine ⟨⟨22,399,u395⟩,?_⟩
   simp only [hm1]
   intro st clock hl hlt hnd
   obtain ⟨b,rfl⟩:∃ b,st=[b]:=List.length_eq_one_iff.1 hl
   refine ⟨2,Meet.of ?_⟩
   rw [Lz68_eq]
   generalize hg:((h.make (.cells true (.one 193) (.slc none 0))).put n (.mps 22 399 [(.int .u16 k,v)] [b] clock)).make (.mit (some n) clock [] clock)=h2
   have e2:h2.next=h.next + 2:=by rw [← hg,make_next,put_next,make_next]
   have g1:h2.m n=some (.mps 22 399 [(.int .u16 k,v)] [b] clock):=by rw [← hg,make_m,if_neg (by rw [put_next,make_next];omega),put_m,if_pos rfl]
   have g2:h2.m h.next=some (.cells true (.one 193) (.slc none 0)):=by rw [← hg,make_m,if_neg (by rw [put_next,make_next];omega),put_m,if_neg (by omega),make_m,if_pos rfl]
   have g3:∀ i,i < h.next→i≠n→h2.m i=h.m i:=fun i hi hne=>by rw [← hg,make_m,if_neg (by rw [put_next,make_next];omega),put_m,if_neg hne,make_m,if_neg (by omega)]
   have g4:h2.m (h.next + 1)=some (.mit (some n) clock [] clock):=by rw [← hg,make_m,if_pos (by rw [put_next,make_next])]
   have hit:itV (h.make (.cells true (.one 193) (.slc none 0))).next=.ptr (some ⟨h.next + 1,.one 0,[]⟩):=rfl
   show vcNextM (itV (h.make (.cells true (.one 193) (.slc none 0))).next) h2 _
   rw [hit]
   refine nextM_mk g4 g1 rfl rfl (fun i k' v' b' he hb _=>?_) (fun hall=>absurd (hall b (by simp)) (by simp))
   have hi:i=0:=by
     cases i with
     | zero=>rfl
     | succ i=>simp at he
   subst hi
   simp only [List.getElem?_cons_zero,Option.some.injEq,Prod.mk.injEq] at he hb
   obtain ⟨rfl,rfl⟩:=he
   subst hb
   refine bindS_mk (show aExtract _ _=some (.bool true) from rfl) ?_
   refine i_t (Meet.of ?_)
   rw [Jz4s_eq]
   refine entry_mk (i:=0) (b:=b) (k:=.int .u16 k) (v:=v) (es:=[(.int .u16 k,v)]) (st:=[b]) (kt:=22) (et:=399) (clock:=clock) (seen:=[]++[b]) (since:=clock) (last:=clock) (m:=n) ?_ ?_ rfl rfl rfl rfl ?_
   · rw [put_m,if_pos rfl]
   · rw [put_m,if_neg (by omega),g1]
   refine bindS_mk (show aExtract _ _=some (.int .u16 k) from rfl) ?_
   generalize hg5:h2.put (h.next + 1) (.mit (some n) clock ([]++[b]) clock)=h5
   have e5:h5.next=h.next + 2:=by rw [← hg5,put_next,e2]
   have f1:h5.m n=some (.mps 22 399 [(.int .u16 k,v)] [b] clock):=by rw [← hg5,put_m,if_neg (by omega),g1]
   have f2:h5.m h.next=some (.cells true (.one 193) (.slc none 0)):=by rw [← hg5,put_m,if_neg (by omega),g2]
   have f3:∀ i,i < h.next→i≠n→h5.m i=h.m i:=fun i hi hne=>by rw [← hg5,put_m,if_neg (by omega),g3 i hi hne]
   have f4:h5.m (h.next + 1)=some (.mit (some n) clock [b] clock):=by rw [← hg5,put_m,if_pos rfl];rfl
   refine bindV_mk (ld_mk f2 (by kernel_rfl) rfl) ?_
   refine bindV_mk (bs_mk (e:=22) (z:=.int .u16 0) (l:=[.int .u16 k]) (by kernel_rfl) (by kernel_rfl) (by kernel_rfl)) ?_
   refine bindV_mk (appN (e:=22) (ws:=[.int .u16 k]) (by kernel_rfl) (elemsR (l:=[.int .u16 k]) (own:=true) (by rw [make_m,if_pos rfl]) (by simp)) (by simp) (by rw [b22];simp)) ?_
   have f5:((h5.make (.cells true (.row 22) (.agg [.int .u16 k]))).make (.cells true (.row 22) (.agg [.int .u16 k]))).m h.next=some (.cells true (.one 193) (.slc none 0)):=by rw [make_m,if_neg (by rw [make_next];omega),make_m,if_neg (by omega),f2]
   refine bindV_mk (st_mk (v':=.slc (some (⟨h.next + 3,.row 22,[]⟩,0)) 1) f5 (by kernel_rfl) rfl (s193 _ _) (by rw [make_next,e5];rfl)) ?_
   refine Meet.of ?_
   rw [Lz68_eq]
   generalize hg6:(((h5.make (.cells true (.row 22) (.agg [.int .u16 k]))).make (.cells true (.row 22) (.agg [.int .u16 k]))).put h.next (.cells true (.one 193) (.slc (some (⟨h.next + 3,.row 22,[]⟩,0)) 1)))=h6
   have e6:h6.next=h.next + 4:=by rw [← hg6,put_next,make_next,make_next,e5]
   have p1:h6.m n=some (.mps 22 399 [(.int .u16 k,v)] [b] clock):=by rw [← hg6,put_m,if_neg (by omega),make_m,if_neg (by rw [make_next];omega),make_m,if_neg (by omega),f1]
   have p2:h6.m h.next=some (.cells true (.one 193) (.slc (some (⟨h.next + 3,.row 22,[]⟩,0)) 1)):=by rw [← hg6,put_m,if_pos rfl]
   have p3:∀ i,i < h.next→i≠n→h6.m i=h.m i:=fun i hi hne=>by rw [← hg6,put_m,if_neg (by omega),make_m,if_neg (by rw [make_next];omega),make_m,if_neg (by omega),f3 i hi hne]
   have p4:h6.m (h.next + 1)=some (.mit (some n) clock [b] clock):=by rw [← hg6,put_m,if_neg (by omega),make_m,if_neg (by rw [make_next];omega),make_m,if_neg (by omega),f4]
   have p5:h6.m (h.next + 3)=some (.cells true (.row 22) (.agg [.int .u16 k])):=by rw [← hg6,put_m,if_neg (by omega),make_m,if_pos (by rw [make_next,e5])]
   refine nextM_mk p4 p1 rfl rfl (fun i k' v' b' he hb hns=>?_) (fun _=>?_)
   · exfalso
     cases i with
     | zero=>simp at hb;subst hb;simp at hns
     | succ i=>simp at he
   refine bindS_mk (show aExtract _ _=some (.bool false) from rfl) ?_
   refine i_f (Meet.of ?_)
   refine tail246 _ h.next (some (⟨h.next + 3,.row 22,[]⟩,0)) 1 (by omega) _ ?_ ?_
   · show (h6.put n (.mp 22 399 [(.int .u16 k,v)])).m h.next=_
     rw [put_m,if_neg (by omega),p2]
   · refine ⟨rfl,by rw [put_next,e6],by rw [put_m,if_neg (by omega),p5],fun i hi=>?_⟩
     by_cases e:i=n
     · subst e;rw [put_m,if_pos rfl,hm]
     · rw [put_m,if_neg e,p3 i hi e]
 intro B ι W vs F r
 refine (c B ι W vs F r).mono ?_
 rintro e w' ⟨ι',h',ae,a1,a2,a3,rfl,b1,b2,b3⟩
 refine ⟨ι',h2,_,a1,a2.sub (by rw [hx,b1]) (fun i o ho=>?_),a3,rfl,rfl⟩
 rcases hs i o ho with ⟨rfl,rfl⟩ | h1
 · exact b2
 · have hi:i < h.next:=by
     rcases Nat.lt_or_ge i h.next with k | k
     · exact k
     · obtain ⟨L,g1,_⟩:=F.obj i o h1
       rw [F.fresh i k] at g1;cases g1
   rw [b3 i hi];exact h1
end Go.Proofs.YtcglbpjpbjaecaaGreat.Sh
namespace Go.Ab
open Go Go.RowKit
def lput {α:Type} (s:List (Nat × α)) (more l:List α):List α:=s.foldr (fun p l=>l.set p.1 p.2) l++more
noncomputable def killR {R:Type} (n:Nat):Nat→HT→(HT→R)→R :=
 Nat.rec (motive:=fun _=>Nat→HT→(HT→R)→R) (fun _ H k=>k H) (fun _ ih a H k=>H.kill a fun H=>fNat (Nat.succ a) fun a=>ih a H k) n
noncomputable def killRs {R:Type} (l:List (Nat × Nat)):HT→(HT→R)→R :=
 List.rec (motive:=fun _=>HT→(HT→R)→R) (fun H k=>k H) (fun p _ ih H k=>Prod.rec (fun a n=>killR n a H fun H=>ih H k) p) l
def Less (H H':HT):Prop:=HT.ext H H'∧H'.ah.next=H.ah.next∧∀ n o,H'.ah.m n=some o→H.ah.m n=some o
theorem Less.refl (H:HT):Less H H:=⟨HT.ext.refl H,rfl,fun _ _ h=>h⟩
theorem Less.trans {a b c:HT} (x:Less a b) (y:Less b c):Less a c:=⟨x.1.trans y.1,y.2.1.trans x.2.1,fun n o h=>x.2.2 n o (y.2.2 n o h)⟩
theorem less_kill (H:HT) (n:Nat):∃ H',(∀ (R:Type) (k:HT→R),H.kill n k=k H')∧Less H H':=by
 obtain ⟨H',h1,h2,h3⟩:=H.kill_spec n
 refine ⟨H',h1,h3,by rw [h2];rfl,fun m o hm=>?_⟩
 rw [h2] at hm
 simp only [AH.kill] at hm
 split at hm
 · cases hm
 · exact hm
theorem killR_spec:∀ (n a:Nat) (H:HT),∃ H',(∀ (R:Type) (k:HT→R),killR n a H k=k H')∧Less H H'
 | 0,a,H=>⟨H,fun _ _=>rfl,Less.refl H⟩
 | n + 1,a,H=>by
   obtain ⟨H1,h1,h2⟩:=less_kill H a
   obtain ⟨H2,g1,g2⟩:=killR_spec n (Nat.succ a) H1
   refine ⟨H2,fun R k=>?_,h2.trans g2⟩
   have e:killR (n + 1) a H k=H.kill a fun H=>fNat (Nat.succ a) fun a=>killR n a H k:=rfl
   rw [e,h1,fNat_eq,g1]
theorem killRs_spec:∀ (l:List (Nat × Nat)) (H:HT),∃ H',(∀ (R:Type) (k:HT→R),killRs l H k=k H')∧Less H H'
 | [],H=>⟨H,fun _ _=>rfl,Less.refl H⟩
 | (a,n) :: l,H=>by
   obtain ⟨H1,h1,h2⟩:=killR_spec n a H
   obtain ⟨H2,g1,g2⟩:=killRs_spec l H1
   refine ⟨H2,fun R k=>?_,h2.trans g2⟩
   have e:killRs ((a,n) :: l) H k=killR n a H fun H=>killRs l H k:=rfl
   rw [e,h1,g1]
noncomputable def T8.isNil {α:Type} (t:T8 α):Bool:=T8.rec (motive:=fun _=>Bool) true (fun _ _ _ _ _ _ _ _ _ _ _ _ _ _ _ _ _=>false) t
theorem T8.isNil_eq {α:Type} {t:T8 α} (h:t.isNil=true):t=.nil:=by
 cases t with
 | nil=>rfl
 | node=>cases h
noncomputable def mkN {α:Type} (o:Option α) (a b c d e f g h:T8 α):T8 α :=
 Option.rec (motive:=fun _=>T8 α) (bif a.isNil && (b.isNil && (c.isNil && (d.isNil && (e.isNil && (f.isNil && (g.isNil && h.isNil)))))) then .nil else .node none a b c d e f g h) (fun x=>.node (some x) a b c d e f g h) o
noncomputable def cleanT {α:Type} (t:T8 α):T8 α :=
 T8.rec (motive:=fun _=>T8 α) .nil (fun o _ _ _ _ _ _ _ _ a b c d e f g h=>mkN o a b c d e f g h) t
theorem mkN_get {α:Type} (o:Option α) (a b c d e f g h:T8 α) (p:List D8):T8.get p (mkN o a b c d e f g h)=T8.get p (.node o a b c d e f g h):=by
 cases o with
 | some x=>rfl
 | none =>
   show T8.get p (bif _ then _ else _)=_
   cases hb:(a.isNil && (b.isNil && (c.isNil && (d.isNil && (e.isNil && (f.isNil && (g.isNil && h.isNil))))))) with
   | false=>rfl
   | true =>
     simp only [Bool.and_eq_true] at hb
     obtain ⟨h1,h2,h3,h4,h5,h6,h7,h8⟩:=hb
     rw [T8.isNil_eq h1,T8.isNil_eq h2,T8.isNil_eq h3,T8.isNil_eq h4,T8.isNil_eq h5,T8.isNil_eq h6,T8.isNil_eq h7,T8.isNil_eq h8]
     simp only [cond_true]
     rw [T8.get_nil]
     cases p with
     | nil=>rfl
     | cons x p=>rw [T8.get_s];cases x <;> exact (T8.get_nil p).symm
theorem cleanT_get {α:Type}:∀ (t:T8 α) (p:List D8),T8.get p (cleanT t)=T8.get p t
 | .nil,_=>rfl
 | .node o a b c d e f g h,p=>by
   show T8.get p (mkN o (cleanT a) (cleanT b) (cleanT c) (cleanT d) (cleanT e) (cleanT f) (cleanT g) (cleanT h))=_
   rw [mkN_get]
   cases p with
   | nil=>rfl
   | cons x p=>rw [T8.get_s,T8.get_s];cases x <;> exact cleanT_get _ p
theorem clean_ah (lo next:Nat) (tr:T8 AO):HT.ah ⟨lo,next,cleanT tr⟩=HT.ah ⟨lo,next,tr⟩:=by
 unfold HT.ah
 simp only [cleanT_get]
theorem less_clean (lo next:Nat) (tr:T8 AO):Less ⟨lo,next,tr⟩ ⟨lo,next,cleanT tr⟩:=by
 refine ⟨⟨Nat.le_refl _,Nat.le_refl _,fun n _ _=>cleanT_get tr _,fun hw n o hn=>hw n o ?_⟩,rfl,fun n o hn=>?_⟩
 · have:T8.get (path n) (cleanT tr)=some o:=hn
   rw [cleanT_get] at this;exact this
 · rw [clean_ah] at hn;exact hn
noncomputable def pairP (l:List (Nat × Nat)):AEnd→HT→Option (V × HT):=fun ae H=>match ae with
 | .ret u=>killRs l H fun H=>HT.rec (motive:=fun _=>Option (V × HT)) (fun lo next tr=>some (u,⟨lo,next,cleanT tr⟩)) H
 | .panic _=>none
theorem acalls_less {P:Program} {f:FuncId} {args:List V} {h:AH} {v:V} {H H':HT} (c:ACalls P f args h fun e h'=>e=.ret v∧h'=H.ah) (l:Less H H'):ACalls P f args h fun e h'=>e=.ret v∧h'=H'.ah:=by
 intro B ι W vs F r
 refine (c B ι W vs F r).mono ?_
 rintro e w' ⟨ι',h',ae,a1,a2,a3,rfl,rfl⟩
 exact ⟨ι',H'.ah,.ret v,a1,a2.sub l.2.1 l.2.2,a3,rfl,rfl⟩
section
variable {P:Program}
theorem memo_ofP (K0:Ok P) {T:T8 FD} {hd:HdF} {hm:HmF} {pu:FuncId→Bool} (hT:TabOk P T) (hh:HdOk P hd) (hhm:HmOk P hm) (l:List (Nat × Nat)) {n:Nat} {f:FuncId} {args:List V} {H H':HT} {v:V} (how:H.Own)
   (h:(exTabM P T hd hm pu n).ex (V × HT) f args ⟨H.next,H.next,H.tr⟩ (pairP l)=some (v,H')):MemoOk P ⟨f,args,H,v,H'⟩:=by
 obtain ⟨ae,H1,he,h1,hent,c⟩:=(exTabM_ok K0 hT hh hhm n).1 _ _ _ ⟨H.next,H.next,H.tr⟩ _ _ how h
 cases ae with
 | panic _=>cases h1
 | ret u =>
   obtain ⟨H2,g1,g2⟩:=killRs_spec l H1
   have h1:killRs l H1 (fun H=>HT.rec (motive:=fun _=>Option (V × HT)) (fun lo next tr=>some (u,⟨lo,next,cleanT tr⟩)) H)=some (v,H'):=h1
   rw [g1] at h1
   obtain ⟨lo,next,tr⟩:=H2
   have h1:some (u,(⟨lo,next,cleanT tr⟩:HT))=some (v,H'):=h1
   cases h1
   have g3:=g2.trans (less_clean lo next tr)
   exact ⟨hent,he.trans g3.1,acalls_less c g3⟩
end
noncomputable def oneMemoC (m:Memo):HmF:=fun R f args H K z =>
 bif Nat.beq m.f f && (Nat.beq H.next m.H.next && (sameVs args m.args && sameT (cleanT H.tr) m.H.tr)) then goMemo m.v m.H' H K else z
theorem ext_clean {lo next:Nat} {tr:T8 AO} {H':HT} (e:HT.ext ⟨lo,next,cleanT tr⟩ H'):HT.ext ⟨lo,next,tr⟩ H' :=
 ⟨e.lo,e.next,fun n h1 h2=>(e.same n h1 h2).trans (cleanT_get tr _),fun hw=>e.own fun n o hn=>hw n o (by
   have hn:T8.get (path n) (cleanT tr)=some o:=hn
   rw [cleanT_get] at hn;exact hn)⟩
theorem oneMemoC_ok {P:Program} {m:Memo} (hm:MemoOk P m):HmOk P (oneMemoC m):=by
 intro R f args H K z r how h
 unfold oneMemoC at h
 cases hb:(Nat.beq m.f f && (Nat.beq H.next m.H.next && (sameVs args m.args && sameT (cleanT H.tr) m.H.tr))) with
 | false=>rw [hb] at h;exact .inl h
 | true =>
   rw [hb] at h
   simp only [Bool.and_eq_true] at hb
   obtain ⟨h1,h2,h3,h4⟩:=hb
   have h1:=Nat.eq_of_beq_eq_true h1
   subst h1
   rw [sameVs_eq _ _ h3]
   obtain ⟨lo,next,tr⟩:=H
   have e:=clean_ah lo next tr
   have h:goMemo m.v m.H' ⟨lo,next,cleanT tr⟩ K=some r:=by
     obtain ⟨f,args,⟨l0,n0,t0⟩,v,⟨lo',next',tr'⟩⟩:=m
     rw [goMemo_eq] at h ⊢;exact h
   obtain ⟨v,H',a,b,c,d⟩:=goMemo_ok hm (H:=⟨lo,next,cleanT tr⟩) (Nat.eq_of_beq_eq_true h2) (sameT_eq _ _ h4) h
   rw [e] at d
   exact .inr ⟨v,H',ext_clean a,b,c,d⟩
noncomputable def allMemoC:List Memo→HmF
 | []=>fun R f args H K z=>z
 | m :: l=>fun R f args H K z=>oneMemoC m R f args H K (allMemoC l R f args H K z)
theorem allMemoC_ok {P:Program}:∀ {l:List Memo},MemosOk P l→HmOk P (allMemoC l)
 | [],_=>fun R f args H K z r how h=>.inl h
 | m :: l,hl=>fun R f args H K z r how h=>by
   rcases oneMemoC_ok hl.1 R f args H K _ r how h with h | h
   · exact allMemoC_ok hl.2 R f args H K z r how h
   · exact .inr h
noncomputable def HT.leap {R:Type} (H:HT) (d:Nat) (o:AO) (k:Nat→HT→R):R :=
 HT.rec (fun lo next tr=>fNat (next + d) fun r=>fNat (Nat.succ r) fun nx=>T8.upd (some o) (path r) tr fun tr=>k r ⟨lo,nx,tr⟩) H
theorem HT.leap_spec (H:HT) (d:Nat) (o:AO) (ho:o.isOwn=true):∃ H',(∀ (R:Type) (k:Nat→HT→R),H.leap d o k=k (H.next + d) H')∧H'.ah.next=H.next + d + 1∧(∀ n x,H'.ah.m n=some x→(n=H.next + d∧x=o)∨H.ah.m n=some x)∧HT.ext H H':=by
 obtain ⟨lo,next,tr⟩:=H
 obtain ⟨t',h1,h2,h3⟩:=T8.upd_spec (some o) (path (next + d)) tr
 refine ⟨⟨lo,next + d + 1,t'⟩,fun R k=>?_,rfl,fun n x hx=>?_,Nat.le_refl _,by show next≤next + d + 1;omega,fun m _ hm=>?_,fun hw=>own_upd h2 h3 (fun x hx=>by cases hx;exact ho) hw⟩
 · refine (fNat_eq (next + d) (fun r=>fNat (Nat.succ r) fun nx=>T8.upd (some o) (path r) tr fun tr=>k r ⟨lo,nx,tr⟩)).trans ?_
   refine (fNat_eq (Nat.succ (next + d)) (fun nx=>T8.upd (some o) (path (next + d)) tr fun tr=>k (next + d) ⟨lo,nx,tr⟩)).trans ?_
   exact h1 R fun tr=>k (next + d) ⟨lo,next + d + 1,tr⟩
 · by_cases hn:n=next + d
   · subst hn
     have hx:T8.get (path (next + d)) t'=some x:=hx
     rw [h2] at hx;cases hx
     exact .inl ⟨rfl,rfl⟩
   · have hx:T8.get (path n) t'=some x:=hx
     rw [h3 _ fun e=>hn (path_inj e)] at hx
     exact .inr hx
 · have hne:m≠next + d:=by
     have hm:m < next:=hm
     omega
   exact h3 _ fun e=>hne (path_inj e)
end Go.Ab
