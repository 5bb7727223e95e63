import Derived.Test.YtcglbpjpbjaecaaGreatQ14
import Derived.Shelf.Strings.OnBuilder
import Derived.Shelf.Strings.Search1
import Derived.Laws.RangeAny
set_option linter.unusedVariables false
set_option linter.unusedSimpArgs false
namespace Go.Proofs.YtcglbpjpbjaecaaGreat.Sh
open Go Go.Ab Go.RowKit
open Go.Proofs.YtcglbpjpbjaecaaGreat.Ru (Pg okP)
set_option maxRecDepth 10000
def hx (d:Nat):UInt8:=if d < 10 then UInt8.ofNat (48 + d) else UInt8.ofNat (87 + d)
def hx2 (b:UInt8):List UInt8:=[hx (b.toNat / 16),hx (b.toNat % 16)]
def hexL (s:List UInt8):List UInt8:=s.flatMap hx2
def hexS (s:List UInt8):List UInt8:=if s.isEmpty then [45] else hexL s
theorem hexL_len (s:List UInt8):(hexL s).length=2 * s.length:=by
 induction s with
 | nil=>rfl
 | cons b s ih=>rw [hexL,List.flatMap_cons,List.length_append];simp only [hexL] at ih;rw [ih];simp [hx2];omega
theorem hexL_snoc (s:List UInt8) (b:UInt8):hexL (s++[b])=hexL s++hx2 b:=by simp [hexL]
theorem take_snoc {s:List UInt8} {i:Nat} {b:UInt8} (h:s[i]?=some b):s.take (i + 1)=s.take i++[b]:=by
 rw [List.take_add_one,h];rfl
def lit16:List UInt8:=[48,49,50,51,52,53,54,55,56,57,97,98,99,100,101,102]
theorem lit16_at (d:Nat) (h:d < 16):lit16[d]?=some (hx d):=by
 have:∀ y:Fin 16,lit16[y.val]?=some (hx y.val):=by decide +kernel
 exact this ⟨d,h⟩
theorem hxlo {x:Int} {d:Nat} (h:d < 10) (e:x.toNat=48 + d):UInt8.ofNat x.toNat=hx d:=by rw [hx,if_pos h,e]
theorem hxhi {x:Int} {d:Nat} (h:¬ d < 10) (e:x.toNat=87 + d):UInt8.ofNat x.toNat=hx d:=by rw [hx,if_neg h,e]
theorem b5:Pg.bytesOf 5=1:=by kernel_rfl
theorem ap207:apOk Pg 207 207 5=true:=by kernel_rfl
def names:List (List UInt8):=[[98,101,103,105,110],[114,101,97,100],[119,114,105,116,101],[99,111,109,109,105,116],[97,98,111,114,116],[118,97,99,117,117,109],[99,104,101,99,107,112,111,105,110,116],[99,108,111,115,101]]
def nameOf (k:Nat):List UInt8:=names.getD k [99,97,108,108]
theorem name_call {k:Nat} (h:8≤k):nameOf k=[99,97,108,108]:=by
 unfold nameOf
 rw [List.getD_eq_getElem?_getD,List.getElem?_eq_none (by show 8≤k;exact h)];rfl
theorem name_len (k:Nat):(nameOf k).length≤10:=by
 by_cases h:k < 8
 · have:∀ y:Fin 8,(nameOf y.val).length≤10:=by decide +kernel
   exact this ⟨k,h⟩
 · rw [name_call (by omega)];decide
theorem loop118 (q:AEnd→Prop) (s:List UInt8) (hs:s.length≤70000000000000) (c:q (.ret (.str (hexL s)))):∀ (k i:Nat) (x:V) (h:AH) (n:Nat),i≤s.length→s.length - i=k→k < n→BufB 5 h x (hexL (s.take i))→Lz5w (fun e _=>q e) n (.str s) x (.int .i64 s.length) (.int .i64 i) h:=by
 intro k
 induction k with
 | zero =>
   intro i x h n hi hk hn hB
   obtain ⟨n,rfl⟩:∃ m,n=m + 1:=⟨n - 1,by omega⟩
   rw [Lz5w_eq]
   refine bindS_mk (b_lss) ?_
   refine i_split (fun c1=>?_) (fun c1=>?_)
   · try rw [c1]
     replace c1:=of_decide_eq_true c1
     exfalso;omega
   · try rw [c1]
     replace c1:=of_decide_eq_false c1
     refine Meet.of (cast_p (Jz2s_eq _ _ _) ?_)
     refine bindS_mk ((by rw [List.take_of_length_le (by omega)] at hB;exact hB.str (d:=9) (by kernel_rfl))) ?_
     rw [List.take_of_length_le (by omega)] at hB
     exact c
 | succ k ih0 =>
   intro i x h n hi hk hn hB
   obtain ⟨n,rfl⟩:∃ m,n=m + 1:=⟨n - 1,by omega⟩
   have ih:∀ (i:Nat) (x:V) (h:AH) (n:Nat),i≤s.length→s.length - i=k→k < n→BufB 5 h x (hexL (s.take i))→q (.ret (.str (hexL s)))→Lz5w (fun e _=>q e) n (.str s) x (.int .i64 s.length) (.int .i64 i) h:=fun i x h n a b d e _=>ih0 i x h n a b d e
   rw [Lz5w_eq]
   refine bindS_mk (b_lss) ?_
   refine i_split (fun c1=>?_) (fun c1=>?_)
   · try rw [c1]
     replace c1:=of_decide_eq_true c1
     obtain ⟨b,hb0⟩:∃ b,s[i]?=some b:=⟨s[i]'(by omega),List.getElem?_eq_getElem (by omega)⟩
     have hb:s[((i:Nat):Int).toNat]?=some b:=hb0
     have hb256:=b.toNat_lt
     refine Meet.of (cast_p (Jz2q_eq _ _ _ _ _ _ _) ?_)
     refine bindSO_mk (ixS (by kernel_rfl) (by omega) (hb)) ?_
     refine bindSO_mk (shr4 (by have:=b.toNat_lt;omega) (by have:=b.toNat_lt;omega)) ?_
     refine bindSO_mk (ixS (by kernel_rfl) (by omega) ((congrArg (fun k=>lit16[k]?) (by omega)).trans (lit16_at (b.toNat / 16) (by have:=b.toNat_lt;omega)))) ?_
     refine bindSO_mk (ixS (by kernel_rfl) (by omega) (hb)) ?_
     refine bindSO_mk (and15 (by have:=b.toNat_lt;omega) (by have:=b.toNat_lt;omega)) ?_
     refine bindSO_mk (ixS (by kernel_rfl) (by omega) ((congrArg (fun k=>lit16[k]?) (by omega)).trans (lit16_at (b.toNat % 16) (by omega)))) ?_
     refine bindE (bs2_at (e:=5) (by kernel_rfl) z5 (by kernel_rfl) (by kernel_rfl)) fun h2 u2=>?_
     have n2:=u2.next
     have f2_2:=u2.at_
     obtain ⟨v,h3,e3,B,hn3,_⟩:=(hB.keep (by omega) (fun k hk=>u2.other k hk)).app (w:=hx2 b) ap207 b5 ((elems_row f2_2).trans (by rfl)) (by simp [hx2]) (by rw [hexL_len];simp [hx2];omega)
     refine bindV_mk (e3) ?_
     refine Meet.of (cast_p (Jz2r_eq _ _ _ _ _ _ _) ?_)
     first | refine bindS_mk (w_add (by first | exact wrap_i64 (by omega) (by omega) | exact wr_u8 (by omega) (by omega) | exact wr_u16 (by omega) (by omega) | exact wr_u32 (by omega) (by omega) | exact wr_u64 (by omega) (by omega))) ?_ | refine bindS_mk (b_add) ?_
     refine Meet.of ((congrArg (fun x:Int=>Lz5w (fun e _=>q e) n (.str s) v (.int .i64 s.length) (.int .i64 x) _) (show ((i:Nat):Int) + 1=((i + 1:Nat):Int) by omega)).mpr (ih (i + 1) _ _ n (by omega) (by omega) (by omega) ?_ c))
     rw [take_snoc hb0,hexL_snoc];exact B
   · try rw [c1]
     replace c1:=of_decide_eq_false c1
     refine Meet.of (cast_p (Jz2s_eq _ _ _) ?_)
     refine bindS_mk ((by rw [List.take_of_length_le (by omega)] at hB;exact hB.str (d:=9) (by kernel_rfl))) ?_
     rw [List.take_of_length_le (by omega)] at hB
     exact c
theorem bytesP (s:List UInt8) (hs:s.length≤70000000000000) (h:AH):ACalls Pg 118 [.str s] h (pureE (.str (hexS s)) h):=by
 refine pure_lift rfl rfl ?_ h
 refine C118 _ _ _ ?_
 refine bindS_mk (t_eql) ?_
 refine i_split (fun c1=>?_) (fun c1=>?_)
 · try rw [c1]
   replace c1:=eq_of_beq c1
   subst c1;rfl
 · try rw [c1]
   replace c1:=ne_of_beq_false c1
   refine Meet.of (cast_p (Jz2p_eq _ _ _) ?_)
   refine bindV_mk (len_str (by kernel_rfl)) ?_
   exact ⟨s.length + 1,Meet.of (loop118 (fun e=>e=.ret (.str (hexS s))) s hs (by rw [hexS,if_neg (by simpa using c1)]) s.length 0 (.slc none 0) _ _ (by omega) (by omega) (by omega) (.inl ⟨rfl,rfl⟩))⟩
theorem loop121 (q:AEnd→Prop) (s:List UInt8) (hs:s.length≤70000000000000) (c:q (.ret (.str (hexL s)))):∀ (k i:Nat) (h:AH) (n:Nat),i≤s.length→s.length - i=k→k < n→Lz5y (fun e _=>q e) n (.str s) (.str (hexL (s.take i))) (.int .i64 i) h:=by
 intro k
 induction k with
 | zero =>
   intro i h n hi hk hn
   obtain ⟨n,rfl⟩:∃ m,n=m + 1:=⟨n - 1,by omega⟩
   rw [Lz5y_eq]
   refine bindV_mk (len_str (by kernel_rfl)) ?_
   refine bindS_mk (b_lss) ?_
   refine i_split (fun c1=>?_) (fun c1=>?_)
   · try rw [c1]
     replace c1:=of_decide_eq_true c1
     exfalso;omega
   · try rw [c1]
     replace c1:=of_decide_eq_false c1
     refine Meet.of (cast_p (Jz2z_eq _ _ _) ?_)
     rw [List.take_of_length_le (by omega)];exact c
 | succ k ih0 =>
   intro i h n hi hk hn
   obtain ⟨n,rfl⟩:∃ m,n=m + 1:=⟨n - 1,by omega⟩
   have ih:∀ (i:Nat) (h:AH) (n:Nat),i≤s.length→s.length - i=k→k < n→Lz5y (fun e _=>q e) n (.str s) (.str (hexL (s.take i))) (.int .i64 i) h:=fun i h n a b d=>ih0 i h n a b d
   rw [Lz5y_eq]
   refine bindV_mk (len_str (by kernel_rfl)) ?_
   refine bindS_mk (b_lss) ?_
   refine i_split (fun c1=>?_) (fun c1=>?_)
   · try rw [c1]
     replace c1:=of_decide_eq_true c1
     obtain ⟨b,hb0⟩:∃ b,s[i]?=some b:=⟨s[i]'(by omega),List.getElem?_eq_getElem (by omega)⟩
     have hb:s[((i:Nat):Int).toNat]?=some b:=hb0
     have hb256:=b.toNat_lt
     refine Meet.of (cast_p (Jz2v_eq _ _ _ _ _ _) ?_)
     refine bindSO_mk (ixS (by kernel_rfl) (by omega) (hb)) ?_
     refine bindSO_mk (w_quo (by omega) (by omega) (wr_u8 (by have:=b.toNat_lt;omega) (by have:=b.toNat_lt;omega))) ?_
     refine bindSO_mk (ixS (by kernel_rfl) (by omega) (hb)) ?_
     refine bindSO_mk (w_rem (by omega) (by omega)) ?_
     refine bindE (bs2_at (e:=5) (by kernel_rfl) z5 (by kernel_rfl) (by kernel_rfl)) fun h2 u2=>?_
     have n2:=u2.next
     have f2_2:=u2.at_
     refine bindVO_mk (len_slc (by kernel_rfl)) ?_
     refine ⟨3,Meet.of (cast_p (Lz5z_eq _ _ 2 _ _ _ _ _ _ _) ?_)⟩
     refine bindS_mk (b_lss_t (by omega)) ?_
     refine i_t ?_
     refine Meet.of (cast_p (Jz2w_eq _ _ _ _ _ _ _ _ _ _) ?_)
     refine bindS_mk (ia_slc _ (by kernel_rfl) (by omega) (by omega)) ?_
     refine bindV_mk (ld_mk f2_2 (by kernel_rfl) (getV_row (by rfl))) ?_
     refine bindS_mk (b_lss) ?_
     refine i_split (fun c3=>?_) (fun c3=>?_)
     · try rw [c3]
       replace c3:=of_decide_eq_true c3
       first | refine bindS_mk (w_add (by first | exact wrap_i64 (by omega) (by omega) | exact wr_u8 (by omega) (by omega) | exact wr_u16 (by omega) (by omega) | exact wr_u32 (by omega) (by omega) | exact wr_u64 (by omega) (by omega))) ?_ | refine bindS_mk (b_add) ?_
       refine bindE (bs1_at (e:=5) (by kernel_rfl) z5 (by kernel_rfl)) fun h4 u4=>?_
       have n4:=u4.next
       have f2_4:=(u4.other _ (by omega)).trans f2_2
       have f4_4:=u4.at_
       refine bindS_mk (cvBS (e:=5) (by kernel_rfl) ((elems_row f4_4).trans (byte1 (by have:=b.toNat_lt;omega) (by have:=b.toNat_lt;omega))) (.inr ⟨_,_,rfl⟩)) ?_
       refine bindS_mk (t_add (by simp only [List.length_append,List.length_cons,List.length_nil,hexL_len,List.length_take];omega)) ?_
       refine Meet.of (cast_p (Jz2x_eq _ _ _ _ _ _ _ _ _ _) ?_)
       first | refine bindS_mk (w_add (by first | exact wrap_i64 (by omega) (by omega) | exact wr_u8 (by omega) (by omega) | exact wr_u16 (by omega) (by omega) | exact wr_u32 (by omega) (by omega) | exact wr_u64 (by omega) (by omega))) ?_ | refine bindS_mk (b_add) ?_
       refine Meet.of (cast_p (Lz5z_eq _ _ _ _ _ _ _ _ _ _) ?_)
       refine bindS_mk (b_lss_t (by omega)) ?_
       refine i_t ?_
       refine Meet.of (cast_p (Jz2w_eq _ _ _ _ _ _ _ _ _ _) ?_)
       refine bindS_mk (ia_slc _ (by kernel_rfl) (by omega) (by omega)) ?_
       refine bindV_mk (ld_mk f2_4 (by kernel_rfl) (getV_row (by rfl))) ?_
       refine bindS_mk (b_lss) ?_
       refine i_split (fun c5=>?_) (fun c5=>?_)
       · try rw [c5]
         replace c5:=of_decide_eq_true c5
         first | refine bindS_mk (w_add (by first | exact wrap_i64 (by omega) (by omega) | exact wr_u8 (by omega) (by omega) | exact wr_u16 (by omega) (by omega) | exact wr_u32 (by omega) (by omega) | exact wr_u64 (by omega) (by omega))) ?_ | refine bindS_mk (b_add) ?_
         refine bindE (bs1_at (e:=5) (by kernel_rfl) z5 (by kernel_rfl)) fun h6 u6=>?_
         have n6:=u6.next
         have f2_6:=(u6.other _ (by omega)).trans f2_4
         have f4_6:=(u6.other _ (by omega)).trans f4_4
         have f6_6:=u6.at_
         refine bindS_mk (cvBS (e:=5) (by kernel_rfl) ((elems_row f6_6).trans (byte1 (by have:=b.toNat_lt;omega) (by have:=b.toNat_lt;omega))) (.inr ⟨_,_,rfl⟩)) ?_
         refine bindS_mk (t_add (by simp only [List.length_append,List.length_cons,List.length_nil,hexL_len,List.length_take];omega)) ?_
         refine Meet.of (cast_p (Jz2x_eq _ _ _ _ _ _ _ _ _ _) ?_)
         first | refine bindS_mk (w_add (by first | exact wrap_i64 (by omega) (by omega) | exact wr_u8 (by omega) (by omega) | exact wr_u16 (by omega) (by omega) | exact wr_u32 (by omega) (by omega) | exact wr_u64 (by omega) (by omega))) ?_ | refine bindS_mk (b_add) ?_
         refine Meet.of (cast_p (Lz5z_eq _ _ _ _ _ _ _ _ _ _) ?_)
         refine bindS_mk (b_lss_f (by omega)) ?_
         refine i_f ?_
         refine Meet.of (cast_p (Jz2y_eq _ _ _ _ _ _) ?_)
         first | refine bindS_mk (w_add (by first | exact wrap_i64 (by omega) (by omega) | exact wr_u8 (by omega) (by omega) | exact wr_u16 (by omega) (by omega) | exact wr_u32 (by omega) (by omega) | exact wr_u64 (by omega) (by omega))) ?_ | refine bindS_mk (b_add) ?_
         refine Meet.of ((congrArg (fun x:Int=>Lz5y (fun e _=>q e) n (.str s) _ (.int .i64 x) _) (show ((i:Nat):Int) + 1=((i + 1:Nat):Int) by omega)).mpr ?_)
         refine (congrArg (fun t:List UInt8=>Lz5y (fun e _=>q e) n (.str s) (.str t) (.int .i64 ((i + 1:Nat):Int)) _) ?_).mpr (ih (i + 1) _ n (by omega) (by omega) (by omega))
         rw [take_snoc hb0,hexL_snoc,List.append_assoc]
         exact congrArg (hexL (s.take i)++·) (List.cons_eq_cons.2 ⟨by first | exact hxlo (by omega) (by omega) | exact hxhi (by omega) (by omega),List.cons_eq_cons.2 ⟨by first | exact hxlo (by omega) (by omega) | exact hxhi (by omega) (by omega),rfl⟩⟩)
       · try rw [c5]
         replace c5:=of_decide_eq_false c5
         first | refine bindS_mk (w_add (by first | exact wrap_i64 (by omega) (by omega) | exact wr_u8 (by omega) (by omega) | exact wr_u16 (by omega) (by omega) | exact wr_u32 (by omega) (by omega) | exact wr_u64 (by omega) (by omega))) ?_ | refine bindS_mk (b_add) ?_
         refine bindE (bs1_at (e:=5) (by kernel_rfl) z5 (by kernel_rfl)) fun h7 u7=>?_
         have n7:=u7.next
         have f2_7:=(u7.other _ (by omega)).trans f2_4
         have f4_7:=(u7.other _ (by omega)).trans f4_4
         have f7_7:=u7.at_
         refine bindS_mk (cvBS (e:=5) (by kernel_rfl) ((elems_row f7_7).trans (byte1 (by have:=b.toNat_lt;omega) (by have:=b.toNat_lt;omega))) (.inr ⟨_,_,rfl⟩)) ?_
         refine bindS_mk (t_add (by simp only [List.length_append,List.length_cons,List.length_nil,hexL_len,List.length_take];omega)) ?_
         refine Meet.of (cast_p (Jz2x_eq _ _ _ _ _ _ _ _ _ _) ?_)
         first | refine bindS_mk (w_add (by first | exact wrap_i64 (by omega) (by omega) | exact wr_u8 (by omega) (by omega) | exact wr_u16 (by omega) (by omega) | exact wr_u32 (by omega) (by omega) | exact wr_u64 (by omega) (by omega))) ?_ | refine bindS_mk (b_add) ?_
         refine Meet.of (cast_p (Lz5z_eq _ _ _ _ _ _ _ _ _ _) ?_)
         refine bindS_mk (b_lss_f (by omega)) ?_
         refine i_f ?_
         refine Meet.of (cast_p (Jz2y_eq _ _ _ _ _ _) ?_)
         first | refine bindS_mk (w_add (by first | exact wrap_i64 (by omega) (by omega) | exact wr_u8 (by omega) (by omega) | exact wr_u16 (by omega) (by omega) | exact wr_u32 (by omega) (by omega) | exact wr_u64 (by omega) (by omega))) ?_ | refine bindS_mk (b_add) ?_
         refine Meet.of ((congrArg (fun x:Int=>Lz5y (fun e _=>q e) n (.str s) _ (.int .i64 x) _) (show ((i:Nat):Int) + 1=((i + 1:Nat):Int) by omega)).mpr ?_)
         refine (congrArg (fun t:List UInt8=>Lz5y (fun e _=>q e) n (.str s) (.str t) (.int .i64 ((i + 1:Nat):Int)) _) ?_).mpr (ih (i + 1) _ n (by omega) (by omega) (by omega))
         rw [take_snoc hb0,hexL_snoc,List.append_assoc]
         exact congrArg (hexL (s.take i)++·) (List.cons_eq_cons.2 ⟨by first | exact hxlo (by omega) (by omega) | exact hxhi (by omega) (by omega),List.cons_eq_cons.2 ⟨by first | exact hxlo (by omega) (by omega) | exact hxhi (by omega) (by omega),rfl⟩⟩)
     · try rw [c3]
       replace c3:=of_decide_eq_false c3
       first | refine bindS_mk (w_add (by first | exact wrap_i64 (by omega) (by omega) | exact wr_u8 (by omega) (by omega) | exact wr_u16 (by omega) (by omega) | exact wr_u32 (by omega) (by omega) | exact wr_u64 (by omega) (by omega))) ?_ | refine bindS_mk (b_add) ?_
       refine bindE (bs1_at (e:=5) (by kernel_rfl) z5 (by kernel_rfl)) fun h8 u8=>?_
       have n8:=u8.next
       have f2_8:=(u8.other _ (by omega)).trans f2_2
       have f8_8:=u8.at_
       refine bindS_mk (cvBS (e:=5) (by kernel_rfl) ((elems_row f8_8).trans (byte1 (by have:=b.toNat_lt;omega) (by have:=b.toNat_lt;omega))) (.inr ⟨_,_,rfl⟩)) ?_
       refine bindS_mk (t_add (by simp only [List.length_append,List.length_cons,List.length_nil,hexL_len,List.length_take];omega)) ?_
       refine Meet.of (cast_p (Jz2x_eq _ _ _ _ _ _ _ _ _ _) ?_)
       first | refine bindS_mk (w_add (by first | exact wrap_i64 (by omega) (by omega) | exact wr_u8 (by omega) (by omega) | exact wr_u16 (by omega) (by omega) | exact wr_u32 (by omega) (by omega) | exact wr_u64 (by omega) (by omega))) ?_ | refine bindS_mk (b_add) ?_
       refine Meet.of (cast_p (Lz5z_eq _ _ _ _ _ _ _ _ _ _) ?_)
       refine bindS_mk (b_lss_t (by omega)) ?_
       refine i_t ?_
       refine Meet.of (cast_p (Jz2w_eq _ _ _ _ _ _ _ _ _ _) ?_)
       refine bindS_mk (ia_slc _ (by kernel_rfl) (by omega) (by omega)) ?_
       refine bindV_mk (ld_mk f2_8 (by kernel_rfl) (getV_row (by rfl))) ?_
       refine bindS_mk (b_lss) ?_
       refine i_split (fun c9=>?_) (fun c9=>?_)
       · try rw [c9]
         replace c9:=of_decide_eq_true c9
         first | refine bindS_mk (w_add (by first | exact wrap_i64 (by omega) (by omega) | exact wr_u8 (by omega) (by omega) | exact wr_u16 (by omega) (by omega) | exact wr_u32 (by omega) (by omega) | exact wr_u64 (by omega) (by omega))) ?_ | refine bindS_mk (b_add) ?_
         refine bindE (bs1_at (e:=5) (by kernel_rfl) z5 (by kernel_rfl)) fun h10 u10=>?_
         have n10:=u10.next
         have f2_10:=(u10.other _ (by omega)).trans f2_8
         have f8_10:=(u10.other _ (by omega)).trans f8_8
         have f10_10:=u10.at_
         refine bindS_mk (cvBS (e:=5) (by kernel_rfl) ((elems_row f10_10).trans (byte1 (by have:=b.toNat_lt;omega) (by have:=b.toNat_lt;omega))) (.inr ⟨_,_,rfl⟩)) ?_
         refine bindS_mk (t_add (by simp only [List.length_append,List.length_cons,List.length_nil,hexL_len,List.length_take];omega)) ?_
         refine Meet.of (cast_p (Jz2x_eq _ _ _ _ _ _ _ _ _ _) ?_)
         first | refine bindS_mk (w_add (by first | exact wrap_i64 (by omega) (by omega) | exact wr_u8 (by omega) (by omega) | exact wr_u16 (by omega) (by omega) | exact wr_u32 (by omega) (by omega) | exact wr_u64 (by omega) (by omega))) ?_ | refine bindS_mk (b_add) ?_
         refine Meet.of (cast_p (Lz5z_eq _ _ _ _ _ _ _ _ _ _) ?_)
         refine bindS_mk (b_lss_f (by omega)) ?_
         refine i_f ?_
         refine Meet.of (cast_p (Jz2y_eq _ _ _ _ _ _) ?_)
         first | refine bindS_mk (w_add (by first | exact wrap_i64 (by omega) (by omega) | exact wr_u8 (by omega) (by omega) | exact wr_u16 (by omega) (by omega) | exact wr_u32 (by omega) (by omega) | exact wr_u64 (by omega) (by omega))) ?_ | refine bindS_mk (b_add) ?_
         refine Meet.of ((congrArg (fun x:Int=>Lz5y (fun e _=>q e) n (.str s) _ (.int .i64 x) _) (show ((i:Nat):Int) + 1=((i + 1:Nat):Int) by omega)).mpr ?_)
         refine (congrArg (fun t:List UInt8=>Lz5y (fun e _=>q e) n (.str s) (.str t) (.int .i64 ((i + 1:Nat):Int)) _) ?_).mpr (ih (i + 1) _ n (by omega) (by omega) (by omega))
         rw [take_snoc hb0,hexL_snoc,List.append_assoc]
         exact congrArg (hexL (s.take i)++·) (List.cons_eq_cons.2 ⟨by first | exact hxlo (by omega) (by omega) | exact hxhi (by omega) (by omega),List.cons_eq_cons.2 ⟨by first | exact hxlo (by omega) (by omega) | exact hxhi (by omega) (by omega),rfl⟩⟩)
       · try rw [c9]
         replace c9:=of_decide_eq_false c9
         first | refine bindS_mk (w_add (by first | exact wrap_i64 (by omega) (by omega) | exact wr_u8 (by omega) (by omega) | exact wr_u16 (by omega) (by omega) | exact wr_u32 (by omega) (by omega) | exact wr_u64 (by omega) (by omega))) ?_ | refine bindS_mk (b_add) ?_
         refine bindE (bs1_at (e:=5) (by kernel_rfl) z5 (by kernel_rfl)) fun h11 u11=>?_
         have n11:=u11.next
         have f2_11:=(u11.other _ (by omega)).trans f2_8
         have f8_11:=(u11.other _ (by omega)).trans f8_8
         have f11_11:=u11.at_
         refine bindS_mk (cvBS (e:=5) (by kernel_rfl) ((elems_row f11_11).trans (byte1 (by have:=b.toNat_lt;omega) (by have:=b.toNat_lt;omega))) (.inr ⟨_,_,rfl⟩)) ?_
         refine bindS_mk (t_add (by simp only [List.length_append,List.length_cons,List.length_nil,hexL_len,List.length_take];omega)) ?_
         refine Meet.of (cast_p (Jz2x_eq _ _ _ _ _ _ _ _ _ _) ?_)
         first | refine bindS_mk (w_add (by first | exact wrap_i64 (by omega) (by omega) | exact wr_u8 (by omega) (by omega) | exact wr_u16 (by omega) (by omega) | exact wr_u32 (by omega) (by omega) | exact wr_u64 (by omega) (by omega))) ?_ | refine bindS_mk (b_add) ?_
         refine Meet.of (cast_p (Lz5z_eq _ _ _ _ _ _ _ _ _ _) ?_)
         refine bindS_mk (b_lss_f (by omega)) ?_
         refine i_f ?_
         refine Meet.of (cast_p (Jz2y_eq _ _ _ _ _ _) ?_)
         first | refine bindS_mk (w_add (by first | exact wrap_i64 (by omega) (by omega) | exact wr_u8 (by omega) (by omega) | exact wr_u16 (by omega) (by omega) | exact wr_u32 (by omega) (by omega) | exact wr_u64 (by omega) (by omega))) ?_ | refine bindS_mk (b_add) ?_
         refine Meet.of ((congrArg (fun x:Int=>Lz5y (fun e _=>q e) n (.str s) _ (.int .i64 x) _) (show ((i:Nat):Int) + 1=((i + 1:Nat):Int) by omega)).mpr ?_)
         refine (congrArg (fun t:List UInt8=>Lz5y (fun e _=>q e) n (.str s) (.str t) (.int .i64 ((i + 1:Nat):Int)) _) ?_).mpr (ih (i + 1) _ n (by omega) (by omega) (by omega))
         rw [take_snoc hb0,hexL_snoc,List.append_assoc]
         exact congrArg (hexL (s.take i)++·) (List.cons_eq_cons.2 ⟨by first | exact hxlo (by omega) (by omega) | exact hxhi (by omega) (by omega),List.cons_eq_cons.2 ⟨by first | exact hxlo (by omega) (by omega) | exact hxhi (by omega) (by omega),rfl⟩⟩)
   · try rw [c1]
     replace c1:=of_decide_eq_false c1
     refine Meet.of (cast_p (Jz2z_eq _ _ _) ?_)
     rw [List.take_of_length_le (by omega)];exact c
theorem HexP (s:List UInt8) (hs:s.length≤70000000000000) (h:AH):ACalls Pg 121 [.str s] h (pureE (.str (hexS s)) h):=by
 refine pure_lift rfl rfl ?_ h
 refine C121 _ _ _ ?_
 refine bindV_mk (len_str (by kernel_rfl)) ?_
 refine bindS_mk (b_eql) ?_
 refine i_split (fun c1=>?_) (fun c1=>?_)
 · try rw [c1]
   replace c1:=eq_of_beq c1
   obtain rfl:s=[]:=List.length_eq_zero_iff.1 (by omega)
   rfl
 · try rw [c1]
   replace c1:=ne_of_beq_false c1
   refine Meet.of (cast_p (Jz2u_eq _ _ _) ?_)
   exact ⟨s.length + 1,Meet.of (loop121 (fun e=>e=.ret (.str (hexS s))) s hs (by rw [hexS,if_neg (by intro hh;rw [List.isEmpty_iff] at hh;subst hh;exact c1 rfl)]) s.length 0 _ _ (by omega) (by omega) (by omega))⟩
theorem NameP (x:Int) (h0:0≤x) (h:AH):ACalls Pg 120 [.int .u8 x] h (pureE (.str (nameOf x.toNat)) h):=by
 refine pure_lift rfl rfl ?_ h
 refine C120 _ _ _ ?_
 refine bindS_mk (b_eql) ?_
 refine i_split (fun c1=>?_) (fun c1=>?_)
 · try rw [c1]
   replace c1:=eq_of_beq c1
   subst c1;rfl
 · try rw [c1]
   replace c1:=ne_of_beq_false c1
   refine bindS_mk (b_eql) ?_
   refine i_split (fun c2=>?_) (fun c2=>?_)
   · try rw [c2]
     replace c2:=eq_of_beq c2
     subst c2;rfl
   · try rw [c2]
     replace c2:=ne_of_beq_false c2
     refine bindS_mk (b_eql) ?_
     refine i_split (fun c3=>?_) (fun c3=>?_)
     · try rw [c3]
       replace c3:=eq_of_beq c3
       subst c3;rfl
     · try rw [c3]
       replace c3:=ne_of_beq_false c3
       refine bindS_mk (b_eql) ?_
       refine i_split (fun c4=>?_) (fun c4=>?_)
       · try rw [c4]
         replace c4:=eq_of_beq c4
         subst c4;rfl
       · try rw [c4]
         replace c4:=ne_of_beq_false c4
         refine bindS_mk (b_eql) ?_
         refine i_split (fun c5=>?_) (fun c5=>?_)
         · try rw [c5]
           replace c5:=eq_of_beq c5
           subst c5;rfl
         · try rw [c5]
           replace c5:=ne_of_beq_false c5
           refine bindS_mk (b_eql) ?_
           refine i_split (fun c6=>?_) (fun c6=>?_)
           · try rw [c6]
             replace c6:=eq_of_beq c6
             subst c6;rfl
           · try rw [c6]
             replace c6:=ne_of_beq_false c6
             refine bindS_mk (b_eql) ?_
             refine i_split (fun c7=>?_) (fun c7=>?_)
             · try rw [c7]
               replace c7:=eq_of_beq c7
               subst c7;rfl
             · try rw [c7]
               replace c7:=ne_of_beq_false c7
               refine bindS_mk (b_eql) ?_
               refine i_split (fun c8=>?_) (fun c8=>?_)
               · try rw [c8]
                 replace c8:=eq_of_beq c8
                 subst c8;rfl
               · try rw [c8]
                 replace c8:=ne_of_beq_false c8
                 refine Meet.of (cast_p (Jz2t_eq _ _) ?_)
                 rw [name_call (by omega)]
end Go.Proofs.YtcglbpjpbjaecaaGreat.Sh
namespace Go.Proofs.YtcglbpjpbjaecaaGreat.Sj
open Go Go.Ab Go.RowKit Go.Proofs
open Go.Proofs.YtcglbpjpbjaecaaGreat.Ru (Pg okP)
set_option maxRecDepth 100000
def joRen:Go.Shelf.Ren:=⟨fun | 156=>198 | 165=>254 | 166=>123 | 169=>125 | 240=>199 | 241=>293 | 276=>255 | 277=>303 | n=>n,fun | 31=>337 | 9=>9 | 3=>3 | 4=>4 | 0=>0 | 20=>20 | 72=>233 | 76=>238 | 70=>231 | 37=>207 | 75=>237 | 127=>346 | 164=>383 | 5=>5 | 80=>240 | n=>n,fun n=>n⟩
theorem joLay:Lays.n156 Tryz.prog joRen:={
 mixed:=by kernel_rfl,
 f156:=Tryz.func198.trans (congrArg some (by kernel_rfl)),
 f165:=Tryz.func254.trans (congrArg some (by kernel_rfl)),
 f166:=Tryz.func123.trans (congrArg some (by kernel_rfl)),
 f169:=Tryz.func125.trans (congrArg some (by kernel_rfl)),
 f240:=Tryz.func199.trans (congrArg some (by kernel_rfl)),
 f241:=Tryz.func293.trans (congrArg some (by kernel_rfl)),
 f276:=Tryz.func255.trans (congrArg some (by kernel_rfl)),
 f277:=Tryz.func303.trans (congrArg some (by kernel_rfl)),
 t0:=Tryz.underlying0,
 a0:=Tryz.isAgg0,
 z0:=Tryz.sizeOf0,
 v0:=Tryz.zeroValue0,
 t3:=Tryz.underlying3,
 a3:=Tryz.isAgg3,
 z3:=Tryz.sizeOf3,
 v3:=Tryz.zeroValue3,
 t4:=Tryz.underlying4,
 a4:=Tryz.isAgg4,
 z4:=Tryz.sizeOf4,
 v4:=Tryz.zeroValue4,
 t9:=Tryz.underlying9,
 a9:=Tryz.isAgg9,
 z9:=Tryz.sizeOf9,
 v9:=Tryz.zeroValue9,
 t20:=Tryz.underlying20,
 a20:=Tryz.isAgg20,
 z20:=Tryz.sizeOf20,
 v20:=Tryz.zeroValue20,
 t31:=Tryz.underlying337,
 a31:=Tryz.isAgg337,
 z31:=Tryz.sizeOf337,
 v31:=Tryz.zeroValue337,
 t37:=Tryz.underlying207,
 a37:=Tryz.isAgg207,
 z37:=Tryz.sizeOf207,
 v37:=Tryz.zeroValue207,
 t70:=Tryz.underlying231,
 a70:=Tryz.isAgg231,
 z70:=Tryz.sizeOf231,
 v70:=Tryz.zeroValue231,
 t72:=Tryz.underlying233,
 a72:=Tryz.isAgg233,
 z72:=Tryz.sizeOf233,
 v72:=Tryz.zeroValue233,
 t75:=Tryz.underlying237,
 a75:=Tryz.isAgg237,
 z75:=Tryz.sizeOf237,
 v75:=Tryz.zeroValue237,
 t76:=Tryz.underlying238,
 a76:=Tryz.isAgg238,
 z76:=Tryz.sizeOf238,
 v76:=Tryz.zeroValue238,
 t127:=Tryz.underlying346,
 a127:=Tryz.isAgg346,
 z127:=Tryz.sizeOf346,
 v127:=Tryz.zeroValue346,
 t164:=Tryz.underlying383,
 a164:=Tryz.isAgg383,
 z164:=Tryz.sizeOf383,
 v164:=Tryz.zeroValue383 }
theorem joX:Builder.Extra Tryz.prog joRen where
 sizeBuilder:=by kernel_rfl
 liesBuilder:=by kernel_rfl
 t5:=Tryz.underlying5
 a5:=Tryz.isAgg5
 z5:=Tryz.sizeOf5
 v5:=Tryz.zeroValue5
 infoByte:=by kernel_rfl
 cellsByte:=by kernel_rfl
 sizeByte:=by kernel_rfl
 neB5:=by decide
theorem relCs_strs {P:Program} {ι:Names}:∀ {ss:List (List UInt8)} {cs:List Value},relCs P ι (ss.map V.str) cs→cs=ss.map fun s=>Value.string ⟨s.toArray⟩
 | [],cs,h=>by simpa only [List.map_nil,relCs] using h
 | s :: ss,cs,h=>by
   simp only [List.map_cons,relCs,relC] at h
   obtain ⟨a,b,rfl,h2,rfl⟩:=h
   rw [relCs_strs h2];rfl
theorem joinP (n:Nat) (own:Bool) (ss:List (List UInt8)) (sep:List UInt8) (h:AH) (hm:h.m n=some (.cells own (.row 9) (.agg (ss.map V.str)))) (hl:ss.length≤1000) (hne:ss≠[])
   (hj:(Lib.join ss sep).length≤140737488355328):ACalls Pg 198 [.slc (some (⟨n,.row 9,[]⟩,0)) ss.length,.str sep] h (pureE (.str (Lib.join ss sep)) h):=by
 intro B ι W vs F r
 obtain ⟨v0,vs0,h0,r0,rfl⟩:=relL_cons_iff.1 r
 obtain ⟨v1,vs1,h1,r1,rfl⟩:=relL_cons_iff.1 r0
 simp only [relL] at r1
 subst r1
 obtain rfl:=rel_str h1
 obtain ⟨q,cap,rfl,hcap,hrow⟩:=rel_slc h0
 have hlen0:0 < ss.length:=List.length_pos_iff.2 hne
 obtain ⟨L,o,e,g1,g2,g3,g4,g5⟩:=hrow (by omega)
 obtain ⟨L',k1,k2,k3,a,b,c,elem,fr,k4,k5,k6,k7,k8⟩:=F.obj _ _ hm
 rw [g1] at k1;cases k1
 have hro:Go.Ab.rowAt Pg (.row 9) []=some (0,9):=rfl
 rw [hro] at g3;cases g3
 have hb:b=ss.map fun s=>Value.string ⟨s.toArray⟩:=relCs_strs k7
 have hcell:∀ (j:Nat) x,(ss.map fun s=>(⟨s.toArray⟩:ByteArray))[j]?=some x→W.cell? ⟨L.blk,L.off + j,none⟩=some (.string x):=by
   intro j x hx
   rw [← k5]
   refine cell_in k4 j _ ?_
   rw [hb,List.getElem?_map]
   rw [List.getElem?_map] at hx
   cases hs:ss[j]? with
   | none=>rw [hs] at hx;cases hx
   | some s=>rw [hs] at hx;simp at hx;subst hx;rfl
 have hmm:(ss.map fun s=>(⟨s.toArray⟩:ByteArray)).map (·.data.toList)=ss:=by
   rw [List.map_map]
   exact List.map_id'' (fun s=>rfl) ss
 have hq:q=⟨L.blk,L.off,none⟩:=by rw [g4];simp
 have key:=Any.strings_Join joLay joX L.blk L.off cap (ss.map fun s=>(⟨s.toArray⟩:ByteArray)) ⟨sep.toArray⟩ W hcell (getBlk_lt k4) (by simp;omega) (by simpa using hcap) (by rw [hmm];simpa using hj)
 rw [hmm] at key
 simp only [List.length_map] at key
 rw [hq]
 refine Calls.mono key ?_
 rintro e w' ⟨rfl,bel⟩
 have hold:∀ b,b < W.heap.size→w'.heap[b]?=W.heap[b]?:=fun b hb=>bel.block b hb
 refine ⟨ι,h,.ret _,Names.le_refl _,?_,.inr ⟨rfl,by simp only [relC,Value.cells]⟩,rfl,rfl⟩
 exact (F.grow (fun _=>False) hold (fun _ h=>h.elim) bel.os bel.tape bel.output bel.size).rebase (BaseLe.grow F _ hold bel.os bel.tape bel.output bel.size)
end Go.Proofs.YtcglbpjpbjaecaaGreat.Sj
namespace Go.Proofs.YtcglbpjpbjaecaaGreat.Sh
open Go Go.Ab Go.RowKit
open Go.Proofs.YtcglbpjpbjaecaaGreat.Ru (Pg okP)
set_option maxRecDepth 10000
def jn (ss:List (List UInt8)):List UInt8:=Go.Lib.join ss [32]
theorem jn2 (a b:List UInt8):jn [a,b]=a++32 :: b:=by simp [jn,Go.Lib.join,List.intercalate]
theorem jn3 (a b c:List UInt8):jn [a,b,c]=a++32 :: (b++32 :: c):=by simp [jn,Go.Lib.join,List.intercalate]
theorem wordsP (n:Nat) (own:Bool) (ss:List (List UInt8)) (h:AH) (hm:h.m n=some (.cells own (.row 9) (.agg (ss.map V.str)))) (hl:ss.length≤1000) (hne:ss≠[]) (hj:(jn ss).length≤140737488355328) :
   ACalls Pg 115 [.slc (some (⟨n,.row 9,[]⟩,0)) ss.length] h (pureE (.str (jn ss)) h) :=
 C115 _ _ _ (callS (Sj.joinP n own ss [32] h hm hl hne hj) ⟨rfl,rfl⟩)
def callV:List V:=[.agg [.str [98,101,103,105,110],.bool false,.bool false,.bool false,.bool false],
 .agg [.str [114,101,97,100],.bool true,.bool true,.bool false,.bool false],
 .agg [.str [119,114,105,116,101],.bool true,.bool true,.bool true,.bool true],
 .agg [.str [99,111,109,109,105,116],.bool true,.bool false,.bool false,.bool false],
 .agg [.str [97,98,111,114,116],.bool true,.bool false,.bool false,.bool false],
 .agg [.str [118,97,99,117,117,109],.bool false,.bool false,.bool false,.bool false],
 .agg [.str [99,104,101,99,107,112,111,105,110,116],.bool false,.bool false,.bool false,.bool false],
 .agg [.str [99,108,111,115,101],.bool false,.bool false,.bool false,.bool false]]
theorem callsP (h:AH):ACalls Pg 114 [] h fun e h'=>e=.ret (.slc (some (⟨h.next,.row 225,[]⟩,0)) 8)∧New h h' (.cells true (.row 225) (.agg callV)):=by
 refine C114 _ _ ?_
 refine bindS_mk (show aBuild Pg 225 [(0,.str [98,101,103,105,110])]=some (.agg [.str [98,101,103,105,110],.bool false,.bool false,.bool false,.bool false]) by kernel_rfl) ?_
 refine bindS_mk (show aBuild Pg 225 [(0,.str [114,101,97,100]),(1,.bool true),(2,.bool true)]=some (.agg [.str [114,101,97,100],.bool true,.bool true,.bool false,.bool false]) by kernel_rfl) ?_
 refine bindS_mk (show aBuild Pg 225 [(0,.str [119,114,105,116,101]),(1,.bool true),(2,.bool true),(3,.bool true),(4,.bool true)]=some (.agg [.str [119,114,105,116,101],.bool true,.bool true,.bool true,.bool true]) by kernel_rfl) ?_
 refine bindS_mk (show aBuild Pg 225 [(0,.str [99,111,109,109,105,116]),(1,.bool true)]=some (.agg [.str [99,111,109,109,105,116],.bool true,.bool false,.bool false,.bool false]) by kernel_rfl) ?_
 refine bindS_mk (show aBuild Pg 225 [(0,.str [97,98,111,114,116]),(1,.bool true)]=some (.agg [.str [97,98,111,114,116],.bool true,.bool false,.bool false,.bool false]) by kernel_rfl) ?_
 refine bindS_mk (show aBuild Pg 225 [(0,.str [118,97,99,117,117,109])]=some (.agg [.str [118,97,99,117,117,109],.bool false,.bool false,.bool false,.bool false]) by kernel_rfl) ?_
 refine bindS_mk (show aBuild Pg 225 [(0,.str [99,104,101,99,107,112,111,105,110,116])]=some (.agg [.str [99,104,101,99,107,112,111,105,110,116],.bool false,.bool false,.bool false,.bool false]) by kernel_rfl) ?_
 refine bindS_mk (show aBuild Pg 225 [(0,.str [99,108,111,115,101])]=some (.agg [.str [99,108,111,115,101],.bool false,.bool false,.bool false,.bool false]) by kernel_rfl) ?_
 refine bindE (bs_at (e:=225) (z:=.agg [.str [],.bool false,.bool false,.bool false,.bool false]) (l:=callV) (by kernel_rfl) (by kernel_rfl) (by kernel_rfl)) fun h1 u1=>?_
 exact ⟨rfl,u1⟩
structure Td where
 (who life frm to err:Int)
 (kind txn page off:Int)
 s:List UInt8
 opn:Bool
 (rtxn ts:Int)
 body:List UInt8
def vCall (kind txn page off:Int) (s:List UInt8):V:=.agg [.int .u8 kind,.int .u64 txn,.int .u16 page,.int .i64 off,.str s]
def Td.v (t:Td):V:=.agg [.int .i64 t.who,vCall t.kind t.txn t.page t.off t.s,.int .i64 t.life,.int .i64 t.frm,.int .i64 t.to,.bool t.opn,.agg [.int .i64 t.err,.int .u64 t.rtxn,.int .u32 t.ts,.agg (bytesV t.body)]]
structure Td.ok (t:Td):Prop where
 kind:0≤t.kind∧t.kind < 256
 rtxn:0≤t.rtxn∧t.rtxn < 18446744073709551616
 ts:0≤t.ts∧t.ts < 4294967296
 body:t.body.length=64
theorem shapeB {l:List UInt8}:∀ {n:Nat},l.length=n→shapesAll Pg (bytesV l) 5=true:=by
 intro n _
 have:∀ l:List UInt8,shapesAll Pg (bytesV l) 5=true:=by
   intro l
   induction l with
   | nil=>rfl
   | cons b l ih =>
     have e:bytesV (b :: l)=.int .u8 b.toNat :: bytesV l:=rfl
     have e2:hasShape Pg (.int .u8 b.toNat) 5=true:=by kernel_rfl
     rw [e];simp only [shapesAll,e2,ih,Bool.and_self]
 exact this l
theorem s33 {l:List UInt8} (h:l.length=64):hasShape Pg (.agg (bytesV l)) 33=true:=by
 have hu:ul Pg 33=some (.array 64 5):=by kernel_rfl
 simp only [hasShape,hu,bytesV_len,h,shapeB h,Bool.and_self,beq_self_eq_true]
theorem Td.shape (t:Td) (h:t.body.length=64):hasShape Pg t.v 94=true:=by
 have h1:=s33 h
 have e:hasShape Pg t.v 94=((hasShape Pg (.agg (bytesV t.body)) 33 && true) && true):=by kernel_rfl
 rw [e,h1];rfl
theorem Td.flat (t:Td):flatBs [t.v]=true:=by
 have h1:=flat_bytes t.body
 simp only [flatBs,Td.v,vCall,flatB,h1,Bool.and_self]
def low (x:Int):List UInt8:=dec (x % 4294967296).toNat
def trimB (l:List UInt8):Nat→Nat
 | 0=>0
 | n + 1=>if l.getD n 0=0 then trimB l n else n + 1
def Td.head (t:Td):List UInt8:=jn [low t.life,low t.who,nameOf t.kind.toNat,low t.frm]
def Td.mid (t:Td):List UInt8:=jn [t.head,low t.to,low t.err,dec t.rtxn.toNat,dec t.ts.toNat]
def Td.line (t:Td):List UInt8 :=
 if t.opn then jn [t.head,[111,112,101,110]] else if trimB t.body 64=0 then t.mid else jn [t.mid,hexS (t.body.take (trimB t.body 64))]
theorem hexS_len (s:List UInt8):(hexS s).length≤2 * s.length + 1:=by
 unfold hexS
 split
 · simp
 · rw [hexL_len];omega
section
variable (t:Td) (ok:t.ok) {q:AEnd→Prop} (c:q (.ret (.str t.line)))
include ok c
end
end Go.Proofs.YtcglbpjpbjaecaaGreat.Sh
namespace Go.Proofs.YtcglbpjpbjaecaaGreat.Sh
open Go Go.Ab Go.RowKit
open Go.Proofs.YtcglbpjpbjaecaaGreat.Ru (Pg okP)
set_option maxRecDepth 10000
theorem z9:zeroV Pg 9=some (.str []):=by kernel_rfl
theorem z60:zeroV Pg 60=some (.agg [(.int .i64 0),(.int .u64 0),(.int .u32 0),(.agg (List.replicate 64 (.int .u8 0)))]):=by kernel_rfl
section
variable (t:Td) (ok:t.ok) {q:AEnd→Prop} (c:q (.ret (.str t.line)))
include ok c
end
end Go.Proofs.YtcglbpjpbjaecaaGreat.Sh
namespace Go.Proofs.YtcglbpjpbjaecaaGreat.Sh
open Go Go.Ab Go.RowKit
open Go.Proofs.YtcglbpjpbjaecaaGreat.Ru (Pg okP)
set_option maxRecDepth 10000
structure Ev where
 kind:Nat
 (a b:Int)
 (ck txn page:Nat)
 off:Int
 s:List UInt8
 keep:List Bool
structure Ev.ok (e:Ev):Prop where
 kind:e.kind < 256
 a:-9223372036854775808≤e.a∧e.a < 9223372036854775808
 b:-9223372036854775808≤e.b∧e.b < 9223372036854775808
 ck:e.ck < 256
 txn:e.txn < 18446744073709551616
 page:e.page < 65536
 off:-9223372036854775808≤e.off∧e.off < 9223372036854775808
 s:e.s.length≤140737488355328
 keep:e.keep.length≤140737488355328
def cV (e:Ev):V:=.agg [.int .u8 e.ck,.int .u64 e.txn,.int .u16 e.page,.int .i64 e.off,.str e.s]
def evV (e:Ev) (k:V):V:=.agg [.int .u8 e.kind,.int .i64 e.a,.int .i64 e.b,cV e,k]
def boolsV (l:List Bool):List V:=l.map .bool
def kindNames:List (List UInt8):=[[97,115,107],[115,116,101,112],[114,111,117,110,100],[102,117,115,101],[102,97,105,108],[99,114,97,115,104],[111,112,101,110]]
def kindName (k:Nat):List UInt8:=kindNames.getD k []
def fTxn (k:Nat):Bool:=decide (1≤k∧k≤4)
def fPage (k:Nat):Bool:=decide (k=1∨k=2)
def fOff (k:Nat):Bool:=decide (k=2)
def Ev.fine (e:Ev):Prop :=
 e.kind < 7∧0≤e.a∧e.a < 2147483648∧e.b=0 ∧
 (e.kind≠0→e.ck=0∧e.txn=0∧e.page=0∧e.off=0∧e.s.length=0)∧(e.kind≠5→e.keep.length=0) ∧
 (e.kind=0→e.a < 10∧e.ck < 8∧e.txn < 2147483648∧0≤e.off∧e.off < 2147483648∧e.s.length≤64 ∧
   (¬ (1≤e.ck∧e.ck≤4)→e.txn=0)∧(¬ (e.ck=1∨e.ck=2)→e.page=0)∧(e.ck≠2→e.off=0∧e.s.length=0)) ∧
 (e.kind=5→e.a=0∧e.keep.length≤2000)
instance (e:Ev):Decidable e.fine:=by unfold Ev.fine;infer_instance
def bitsT (l:List Bool):List UInt8:=l.map fun b=>if b then 49 else 48
def Ev.txt (e:Ev):List UInt8 :=
 if e.kind=0 then [97,115,107]++32 :: (dec e.a.toNat++32 :: (nameOf e.ck++((if fTxn e.ck then 32 :: dec e.txn else [])++((if fPage e.ck then 32 :: dec e.page else [])++(if fOff e.ck then 32 :: (dec e.off.toNat++32 :: hexS e.s) else [])))))
 else if e.kind=5 then [99,114,97,115,104,32]++(if e.keep.length=0 then [45] else bitsT e.keep)
 else kindName e.kind++32 :: dec e.a.toNat
def Ev.lineV (e:Ev):V:=.tup [.str (if e.fine then e.txt else []),.bool (decide e.fine)]
theorem line_yes {e:Ev} (h:e.fine) {t:List UInt8} (ht:t=e.txt):V.tup [.str t,.bool true]=e.lineV:=by rw [Ev.lineV,if_pos h,decide_eq_true h,ht]
theorem line_no {e:Ev} (h:¬ e.fine):V.tup [.str [],.bool false]=e.lineV:=by rw [Ev.lineV,if_neg h,decide_eq_false h]
theorem boolsV_len (l:List Bool):(boolsV l).length=l.length:=by simp [boolsV]
theorem s57 (e:Ev):hasShape Pg (cV e) 57=true:=by kernel_rfl
theorem s73 (e:Ev) (a:Option (PA × Nat)) (n:Nat):hasShape Pg (evV e (.slc a n)) 73=true:=by kernel_rfl
def cZ:V:=.agg [.int .u8 0,.int .u64 0,.int .u16 0,.int .i64 0,.str []]
theorem build57:aBuild Pg 57 []=some cZ:=by kernel_rfl
theorem ne57 (e:Ev) (c:Bool):aBin Pg .neq 57 (cV e) cZ c=some (.bool (!decide (e.ck=0∧e.txn=0∧e.page=0∧e.off=0∧e.s.length=0))):=by
 have h1:aBin Pg .neq 57 (cV e) cZ c=if eqOk Pg 57 (cV e) cZ c=true then (aEq Pg 57 (cV e) cZ).map (fun b=>.bool (!b)) else none:=rfl
 have h2:eqOk Pg 57 (cV e) cZ c=true:=by kernel_rfl
 have h3:plainT Pg 20 57=true:=by kernel_rfl
 rw [h1,h2,if_pos rfl]
 unfold aEq
 have hz:hasShape Pg cZ 57=true:=by kernel_rfl
 rw [h3,if_pos rfl,s57 e,hz]
 simp only [Bool.and_self,if_true]
 have:beqV (cV e) cZ=some (decide (e.ck=0∧e.txn=0∧e.page=0∧e.off=0∧e.s.length=0)):=by
   obtain ⟨kind,a,b,ck,txn,page,off,s,keep⟩:=e
   simp only [cV,cZ,beqV,beqVs,if_true]
   clear h1 h2 h3 hz
   have eb:∀ x:Int,(x == 0)=decide (x=0):=fun x=>by by_cases h:x=0 <;> simp [h]
   simp only [eb]
   by_cases k1:ck=0 <;> by_cases k2:txn=0 <;> by_cases k3:page=0 <;> by_cases k4:off=0 <;> cases s <;> simp [k1,k2,k3,k4]
 rw [this];rfl
end Go.Proofs.YtcglbpjpbjaecaaGreat.Sh
namespace Go.Proofs.YtcglbpjpbjaecaaGreat.Sh
open Go Go.Ab Go.RowKit
open Go.Proofs.YtcglbpjpbjaecaaGreat.Ru (Pg okP)
set_option maxRecDepth 100000
noncomputable def B112:Code:=(Tryz.f112.body).getD .skip
def R112:List ResultVar:=[.cell 2 73,.tmp 3]
abbrev N112:Nat:=174
def K112:KT:=(.seq .leaf (.seq .leaf (.seq .leaf (.join (.seq .leaf (.one (.loop (.seq .leaf (.join (.two .leaf .leaf) (.join (.one (.seq .leaf (.seq .leaf (.two .leaf .leaf) [0,2,4,5,6,7,28,29,30,37]) [0,2,4,5,6,7,8,28,29,30])) .leaf [0,2,4,5,6,28,29,30]) [0,2,4,5,6,28,29,30]) [0,2,4,5,6,28,29,30,31]) [0,2,4,5,6,28,29,30])) [0,2,4,5,6,28,29,30]) (.join (.seq .leaf (.one (.seq .leaf (.two (.seq .leaf (.seq .leaf (.seq .leaf (.seq .leaf (.seq .leaf (.seq .leaf (.one (.loop (.seq .leaf (.join (.two .leaf .leaf) (.join (.one (.seq .leaf (.join (.seq .leaf (.two .leaf .leaf) [0,2,4,6,9,12,13,72,73,74,82]) (.seq .leaf (.join (.seq .leaf (.two (.seq .leaf .leaf [0,2,4,5,6,9,13,72,73,74]) .leaf) [0,2,4,6,9,13,72,73,74,88]) (.join (.seq .leaf (.two (.seq .leaf (.seq .leaf .leaf [0,2,4,6,9,13,14,72,73,74]) [0,2,4,5,6,9,13,72,73,74]) .leaf) [0,2,4,6,9,13,72,73,74,102]) (.seq .leaf (.two (.seq .leaf (.seq .leaf (.seq .leaf .leaf [0,2,4,6,9,72,73,74]) [0,2,4,6,9,16,72,73,74]) [0,2,4,5,6,9,72,73,74]) .leaf) [0,2,4,6,9,72,73,74,118]) [0,2,4,6,9,13,72,73,74]) [0,2,4,6,9,13,72,73,74]) [0,2,4,6,9,13,72,73,74]) [0,2,4,6,9,12,13,72,73,74]) [0,2,4,6,9,12,13,72,73,74])) .leaf [0,2,4,6,9,72,73,74]) [0,2,4,6,9,72,73,74]) [0,2,4,6,9,72,73,74,75]) [0,2,4,6,9,72,73,74])) [0,2,4,6,9,72,73,74]) [0,2,4,6,9]) [0,2,4,6]) [0,2,4,6,10]) [0,2,4,5,6]) [0,2,4,6]) (.seq .leaf (.two (.seq .leaf (.one (.loop (.join (.join (.reg [[0,2,4,6,18,147,149]]) (.two .leaf .leaf) [0,2,4,6,18,150]) (.join (.one (.eff [6,7,9])) .leaf [0,2,4,6,18]) [0,2,4,6,18]) [0,2,4,6,18])) [0,2,4,6,18]) (.seq .leaf .leaf [0,2,4,19])) [0,2,4,6,141])) [0,2,4,6,43,52])) [0,2,4,6,43]) (.seq .leaf (.join (.reg [[2,167,169,172]]) .leaf [2,3]) [0,2,4,21,22]) [0,2,4]) [0,2,4,6]) [0,2,4,5,6]) [0,2,4]) [0,2])
def Jz1w (Q:AEnd→AH→Prop) (n:Nat) (x0 x2 x4 x5 x6 x28 x29 x30:V) (h:AH):Prop:=vcAt Pg N112 B112 K112 [1,1,1,0,1,0,0,1,1,1] [n] (vcRet Pg R112 Q) [(0,x0),(2,x2),(4,x4),(5,x5),(6,x6),(28,x28),(29,x29),(30,x30)] h
def Jz1v (Q:AEnd→AH→Prop) (n:Nat) (x0 x2 x4 x5 x6 x28 x29 x30:V) (h:AH):Prop:=vcAt Pg N112 B112 K112 [1,1,1,0,1,0,0,1,1] [n] (vcRet Pg R112 Q) [(0,x0),(2,x2),(4,x4),(5,x5),(6,x6),(28,x28),(29,x29),(30,x30)] h
def Jz22 (Q:AEnd→AH→Prop) (n:Nat) (x0 x2 x4 x6 x9 x72 x73 x74:V) (h:AH):Prop:=vcAt Pg N112 B112 K112 [1,1,1,1,0,1,0,1,0,1,1,1,1,1,1,0,0,1,1,1] [n] (vcRet Pg R112 Q) [(0,x0),(2,x2),(4,x4),(6,x6),(9,x9),(72,x72),(73,x73),(74,x74)] h
def Jz21 (Q:AEnd→AH→Prop) (n:Nat) (x0 x2 x4 x6 x9 x13 x72 x73 x74:V) (h:AH):Prop:=vcAt Pg N112 B112 K112 [1,1,1,1,0,1,0,1,0,1,1,1,1,1,1,0,0,1,1,0,0,1,1,1,1,1] [n] (vcRet Pg R112 Q) [(0,x0),(2,x2),(4,x4),(6,x6),(9,x9),(13,x13),(72,x72),(73,x73),(74,x74)] h
def Jz20 (Q:AEnd→AH→Prop) (n:Nat) (x0 x2 x4 x6 x9 x13 x72 x73 x74:V) (h:AH):Prop:=vcAt Pg N112 B112 K112 [1,1,1,1,0,1,0,1,0,1,1,1,1,1,1,0,0,1,1,0,0,1,1,1,1] [n] (vcRet Pg R112 Q) [(0,x0),(2,x2),(4,x4),(6,x6),(9,x9),(13,x13),(72,x72),(73,x73),(74,x74)] h
def Jz1z (Q:AEnd→AH→Prop) (n:Nat) (x0 x2 x4 x6 x9 x12 x13 x72 x73 x74:V) (h:AH):Prop:=vcAt Pg N112 B112 K112 [1,1,1,1,0,1,0,1,0,1,1,1,1,1,1,0,0,1,1,0,0,1,1] [n] (vcRet Pg R112 Q) [(0,x0),(2,x2),(4,x4),(6,x6),(9,x9),(12,x12),(13,x13),(72,x72),(73,x73),(74,x74)] h
def Jz1y (Q:AEnd→AH→Prop) (n:Nat) (x0 x2 x4 x6 x9 x72 x73 x74:V) (h:AH):Prop:=vcAt Pg N112 B112 K112 [1,1,1,1,0,1,0,1,0,1,1,1,1,1,1,0,0,1,1] [n] (vcRet Pg R112 Q) [(0,x0),(2,x2),(4,x4),(6,x6),(9,x9),(72,x72),(73,x73),(74,x74)] h
def Jz27 (Q:AEnd→AH→Prop) (x2 x3:V) (h:AH):Prop:=vcAt Pg N112 B112 K112 [1,1,1,1,1,1,1] [] (vcRet Pg R112 Q) [(2,x2),(3,x3)] h
def Gz1 (Q:AEnd→AH→Prop) (x2 x167 x169 x172:V) (h:AH):Prop:=segAt Pg N112 B112 K112 [1,1,1,1,1,1,0] 2 1 [] (vcRet Pg R112 Q) [(2,x2),(167,x167),(169,x169),(172,x172)] h
def Jz26 (Q:AEnd→AH→Prop) (x0 x2 x4:V) (h:AH):Prop:=vcAt Pg N112 B112 K112 [1,1,1,1,1] [] (vcRet Pg R112 Q) [(0,x0),(2,x2),(4,x4)] h
def Lz5r (Q:AEnd→AH→Prop) (n:Nat) (x0 x2 x4 x6 x9 x72 x73 x74:V) (h:AH):Prop:=loopAt Pg N112 B112 K112 [1,1,1,1,0,1,0,1,0,1,1,1,1,1,1,0] [] n (vcRet Pg R112 Q) [(0,x0),(2,x2),(4,x4),(6,x6),(9,x9),(72,x72),(73,x73),(74,x74)] h
def Jz25 (Q:AEnd→AH→Prop) (n:Nat) (x0 x2 x4 x6 x18:V) (h:AH):Prop:=vcAt Pg N112 B112 K112 [1,1,1,1,0,1,0,1,1,1,0,1,0,0,1,1] [n] (vcRet Pg R112 Q) [(0,x0),(2,x2),(4,x4),(6,x6),(18,x18)] h
def Jz24 (Q:AEnd→AH→Prop) (n:Nat) (x0 x2 x4 x6 x18:V) (h:AH):Prop:=vcAt Pg N112 B112 K112 [1,1,1,1,0,1,0,1,1,1,0,1,0,0,1] [n] (vcRet Pg R112 Q) [(0,x0),(2,x2),(4,x4),(6,x6),(18,x18)] h
def Jz23 (Q:AEnd→AH→Prop) (n:Nat) (x0 x2 x4 x6 x18 x150:V) (h:AH):Prop:=vcAt Pg N112 B112 K112 [1,1,1,1,0,1,0,1,1,1,0,1,0,0,0,1] [n] (vcRet Pg R112 Q) [(0,x0),(2,x2),(4,x4),(6,x6),(18,x18),(150,x150)] h
def Gz0 (Q:AEnd→AH→Prop) (n:Nat) (x0 x2 x4 x6 x18 x147 x149:V) (h:AH):Prop:=segAt Pg N112 B112 K112 [1,1,1,1,0,1,0,1,1,1,0,1,0,0,0,0] 2 1 [n] (vcRet Pg R112 Q) [(0,x0),(2,x2),(4,x4),(6,x6),(18,x18),(147,x147),(149,x149)] h
def Lz5s (Q:AEnd→AH→Prop) (n:Nat) (x0 x2 x4 x6 x18:V) (h:AH):Prop:=loopAt Pg N112 B112 K112 [1,1,1,1,0,1,0,1,1,1,0,1,0] [] n (vcRet Pg R112 Q) [(0,x0),(2,x2),(4,x4),(6,x6),(18,x18)] h
def Jz1x (Q:AEnd→AH→Prop) (x0 x2 x4 x6:V) (h:AH):Prop:=vcAt Pg N112 B112 K112 [1,1,1,1] [] (vcRet Pg R112 Q) [(0,x0),(2,x2),(4,x4),(6,x6)] h
def Lz5q (Q:AEnd→AH→Prop) (n:Nat) (x0 x2 x4 x5 x6 x28 x29 x30:V) (h:AH):Prop:=loopAt Pg N112 B112 K112 [1,1,1,0,1,0] [] n (vcRet Pg R112 Q) [(0,x0),(2,x2),(4,x4),(5,x5),(6,x6),(28,x28),(29,x29),(30,x30)] h
theorem Jz1w_eq (Q:AEnd→AH→Prop) (n:Nat) (x0 x2 x4 x5 x6 x28 x29 x30:V) (h:AH):Jz1w Q n x0 x2 x4 x5 x6 x28 x29 x30 h=(
 bindV (still (aBin Pg .add 3 x30 (V.int .i64 1) true) h) fun v29 h30 =>
 Meet (Lz5q Q n x0 x2 x4 x5 x6 x28 x29 v29 h30)):=by kernel_rfl
theorem Jz1v_eq (Q:AEnd→AH→Prop) (n:Nat) (x0 x2 x4 x5 x6 x28 x29 x30:V) (h:AH):Jz1v Q n x0 x2 x4 x5 x6 x28 x29 x30 h=(
 bindV (still (aIndexAddr Pg 337 x28 x30) h) fun v17 h18 =>
 bindV (aLoadV Pg h18 9 v17) fun v19 h20 =>
 bindV (still (aBin Pg .eql 9 v19 x5 false) h20) fun v21 h22 =>
 vcIf v21 (
 bindV (still (aConv Pg h22 3 5 x30) h22) fun v23 h24 =>
 bindV (still (aFieldAddr Pg 73 x4 0) h24) fun v25 h26 =>
 bindV (aStoreV Pg h26 5 v25 v23) fun _ h28 =>
 Meet (Jz1w Q n x0 x2 x4 x5 x6 x28 x29 x30 h28)) (
 Meet (Jz1w Q n x0 x2 x4 x5 x6 x28 x29 x30 h22))):=by kernel_rfl
theorem Jz22_eq (Q:AEnd→AH→Prop) (n:Nat) (x0 x2 x4 x6 x9 x72 x73 x74:V) (h:AH):Jz22 Q n x0 x2 x4 x6 x9 x72 x73 x74 h=(
 bindV (still (aBin Pg .add 3 x74 (V.int .i64 1) true) h) fun v81 h82 =>
 Meet (Lz5r Q n x0 x2 x4 x6 x9 x72 x73 v81 h82)):=by kernel_rfl
theorem Jz21_eq (Q:AEnd→AH→Prop) (n:Nat) (x0 x2 x4 x6 x9 x13 x72 x73 x74:V) (h:AH):Jz21 Q n x0 x2 x4 x6 x9 x13 x72 x73 x74 h=(
 bindV (still (aFieldAddr Pg 225 x13 3) h) fun v137 h138 =>
 bindV (aLoadV Pg h138 4 v137) fun v139 h140 =>
 vcIf v139 (
 ACalls Pg 191 [x6] h140 (aEnd (fun v141 h142 =>
 bindV (still (aExtract v141 0) h142) fun v143 h144 =>
 bindV (still (aExtract v141 1) h144) fun v145 h146 =>
 ACalls Pg 193 [v143] h146 (aEnd (fun v147 h148 =>
 bindV (still (aExtract v147 0) h148) fun v149 h150 =>
 bindV (still (aExtract v147 1) h150) fun v151 h152 =>
 bindV (still (aConv Pg h152 49 3 v149) h152) fun v153 h154 =>
 bindV (still (aFieldAddr Pg 73 x4 3) h154) fun v155 h156 =>
 bindV (still (aFieldAddr Pg 57 v155 3) h156) fun v157 h158 =>
 bindV (aStoreV Pg h158 3 v157 v153) fun _ h160 =>
 ACalls Pg 194 [v145] h160 (aEnd (fun v161 h162 =>
 bindV (still (aExtract v161 0) h162) fun v163 h164 =>
 bindV (still (aExtract v161 1) h164) fun v165 h166 =>
 bindV (still (aFieldAddr Pg 73 x4 3) h166) fun v167 h168 =>
 bindV (still (aFieldAddr Pg 57 v167 4) h168) fun v169 h170 =>
 bindV (aStoreV Pg h170 9 v169 v163) fun _ h172 =>
 Meet (Jz22 Q n x0 x2 x4 v145 x9 x72 x73 x74 h172)) fun v h=>Q (.panic v) h)) fun v h=>Q (.panic v) h)) fun v h=>Q (.panic v) h)) (
 Meet (Jz22 Q n x0 x2 x4 x6 x9 x72 x73 x74 h140))):=by kernel_rfl
theorem Jz20_eq (Q:AEnd→AH→Prop) (n:Nat) (x0 x2 x4 x6 x9 x13 x72 x73 x74:V) (h:AH):Jz20 Q n x0 x2 x4 x6 x9 x13 x72 x73 x74 h=(
 bindV (still (aFieldAddr Pg 225 x13 2) h) fun v113 h114 =>
 bindV (aLoadV Pg h114 4 v113) fun v115 h116 =>
 vcIf v115 (
 ACalls Pg 191 [x6] h116 (aEnd (fun v117 h118 =>
 bindV (still (aExtract v117 0) h118) fun v119 h120 =>
 bindV (still (aExtract v117 1) h120) fun v121 h122 =>
 ACalls Pg 193 [v119] h122 (aEnd (fun v123 h124 =>
 bindV (still (aExtract v123 0) h124) fun v125 h126 =>
 bindV (still (aExtract v123 1) h126) fun v127 h128 =>
 bindV (still (aConv Pg h128 49 22 v125) h128) fun v129 h130 =>
 bindV (still (aFieldAddr Pg 73 x4 3) h130) fun v131 h132 =>
 bindV (still (aFieldAddr Pg 57 v131 2) h132) fun v133 h134 =>
 bindV (aStoreV Pg h134 22 v133 v129) fun _ h136 =>
 Meet (Jz21 Q n x0 x2 x4 v121 x9 x13 x72 x73 x74 h136)) fun v h=>Q (.panic v) h)) fun v h=>Q (.panic v) h)) (
 Meet (Jz21 Q n x0 x2 x4 x6 x9 x13 x72 x73 x74 h116))):=by kernel_rfl
theorem Jz1z_eq (Q:AEnd→AH→Prop) (n:Nat) (x0 x2 x4 x6 x9 x12 x13 x72 x73 x74:V) (h:AH):Jz1z Q n x0 x2 x4 x6 x9 x12 x13 x72 x73 x74 h=(
 bindV (still (aConv Pg h 3 5 x12) h) fun v83 h84 =>
 bindV (still (aFieldAddr Pg 73 x4 3) h84) fun v85 h86 =>
 bindV (still (aFieldAddr Pg 57 v85 0) h86) fun v87 h88 =>
 bindV (aStoreV Pg h88 5 v87 v83) fun _ h90 =>
 bindV (still (aFieldAddr Pg 225 x13 1) h90) fun v91 h92 =>
 bindV (aLoadV Pg h92 4 v91) fun v93 h94 =>
 vcIf v93 (
 ACalls Pg 191 [x6] h94 (aEnd (fun v95 h96 =>
 bindV (still (aExtract v95 0) h96) fun v97 h98 =>
 bindV (still (aExtract v95 1) h98) fun v99 h100 =>
 ACalls Pg 193 [v97] h100 (aEnd (fun v101 h102 =>
 bindV (still (aExtract v101 0) h102) fun v103 h104 =>
 bindV (still (aExtract v101 1) h104) fun v105 h106 =>
 bindV (still (aFieldAddr Pg 73 x4 3) h106) fun v107 h108 =>
 bindV (still (aFieldAddr Pg 57 v107 1) h108) fun v109 h110 =>
 bindV (aStoreV Pg h110 49 v109 v103) fun _ h112 =>
 Meet (Jz20 Q n x0 x2 x4 v99 x9 x13 x72 x73 x74 h112)) fun v h=>Q (.panic v) h)) fun v h=>Q (.panic v) h)) (
 Meet (Jz20 Q n x0 x2 x4 x6 x9 x13 x72 x73 x74 h94))):=by kernel_rfl
theorem Jz1y_eq (Q:AEnd→AH→Prop) (n:Nat) (x0 x2 x4 x6 x9 x72 x73 x74:V) (h:AH):Jz1y Q n x0 x2 x4 x6 x9 x72 x73 x74 h=(
 bindV (still (aIndexAddr Pg 222 x72 x74) h) fun v67 h68 =>
 bindV (aLoadV Pg h68 225 v67) fun v69 h70 =>
 bindV (aAlloc Pg h70 225) fun v71 h72 =>
 bindV (aStoreV Pg h72 225 v71 v69) fun _ h74 =>
 bindV (still (aFieldAddr Pg 225 v71 0) h74) fun v75 h76 =>
 bindV (aLoadV Pg h76 9 v75) fun v77 h78 =>
 bindV (still (aBin Pg .neq 9 v77 x9 false) h78) fun v79 h80 =>
 vcIf v79 (
 Meet (Jz22 Q n x0 x2 x4 x6 x9 x72 x73 x74 h80)) (
 Meet (Jz1z Q n x0 x2 x4 x6 x9 x74 v71 x72 x73 x74 h80))):=by kernel_rfl
theorem Jz27_eq (Q:AEnd→AH→Prop) (x2 x3:V) (h:AH):Jz27 Q x2 x3 h=(
 bindR (aRes Pg [(2,x2),(3,x3)] h R112) fun v=>Q (.ret v) h):=by kernel_rfl
theorem Gz1_eq (Q:AEnd→AH→Prop) (x2 x167 x169 x172:V) (h:AH):Gz1 Q x2 x167 x169 x172 h=(
 bindV (aPick x169 x172 (V.bool false) h) fun v183 h184 =>
 bindV (aStoreV Pg h184 73 x2 x167) fun _ h186 =>
 Meet (Jz27 Q x2 v183 h186)):=by kernel_rfl
theorem Jz26_eq (Q:AEnd→AH→Prop) (x0 x2 x4:V) (h:AH):Jz26 Q x0 x2 x4 h=(
 bindV (aLoadV Pg h 73 x4) fun v173 h174 =>
 ACalls Pg 122 [v173] h174 (aEnd (fun v175 h176 =>
 bindV (still (aExtract v175 0) h176) fun v177 h178 =>
 bindV (still (aExtract v175 1) h178) fun v179 h180 =>
 bindV (aLoadV Pg h180 73 x4) fun v181 h182 =>
 vcG v179 true (
 bindV (still (aBin Pg .eql 9 v177 x0 false) h182) fun v187 h188 =>
 Meet (Gz1 Q x2 v181 v179 v187 h188)) (Meet (Gz1 Q x2 v181 v179 hole h182))) fun v h=>Q (.panic v) h)):=by kernel_rfl
theorem Lz5r_eq (Q:AEnd→AH→Prop) (n:Nat) (x0 x2 x4 x6 x9 x72 x73 x74:V) (h:AH):Lz5r Q (n + 1) x0 x2 x4 x6 x9 x72 x73 x74 h=(
 bindV (still (aBin Pg .lss 3 x74 x73 false) h) fun v65 h66 =>
 vcIf v65 (
 Meet (Jz1y Q n x0 x2 x4 x6 x9 x72 x73 x74 h66)) (
 Meet (Jz26 Q x0 x2 x4 h66))):=by kernel_rfl
theorem Jz25_eq (Q:AEnd→AH→Prop) (n:Nat) (x0 x2 x4 x6 x18:V) (h:AH):Jz25 Q n x0 x2 x4 x6 x18 h=(
 bindV (still (aBin Pg .add 3 x18 (V.int .i64 1) true) h) fun v208 h209 =>
 Meet (Lz5s Q n x0 x2 x4 x6 v208 h209)):=by kernel_rfl
theorem Jz24_eq (Q:AEnd→AH→Prop) (n:Nat) (x0 x2 x4 x6 x18:V) (h:AH):Jz24 Q n x0 x2 x4 x6 x18 h=(
 bindO (fstV (still (aFieldAddr Pg 73 x4 4) h)) fun v197 =>
 bindO (fstV (aLoadV Pg h 71 v197)) fun v198 =>
 (
 bindO (fstV (still (aIndex Pg 9 x6 x18) h)) fun v199 =>
 bindO (fstV (still (aBin Pg .eql 5 v199 (V.int .u8 49) true) h)) fun v200 =>
 bindV (aBuildSlice Pg h 71 1 [(0,v200)]) fun v201 h202=>(aLoadV Pg h202 71 v197=some (v198,h202))∧(
 bindV (aBuiltin Pg h202 .append [71,71] [v198,v201]) fun v203 h204=>(
 bindO (fstV (still (aFieldAddr Pg 73 x4 4) h204)) fun v205 =>
 bindV (aStoreV Pg h204 71 v205 v203) fun _ h207=>(
 Meet (Jz25 Q n x0 x2 x4 x6 x18 h207)))))):=by kernel_rfl
theorem Jz23_eq (Q:AEnd→AH→Prop) (n:Nat) (x0 x2 x4 x6 x18 x150:V) (h:AH):Jz23 Q n x0 x2 x4 x6 x18 x150 h=(
 vcIf x150 (
 Meet (Jz24 Q n x0 x2 x4 x6 x18 h)) (
 Meet (Jz26 Q x0 x2 x4 h))):=by kernel_rfl
theorem Gz0_eq (Q:AEnd→AH→Prop) (n:Nat) (x0 x2 x4 x6 x18 x147 x149:V) (h:AH):Gz0 Q n x0 x2 x4 x6 x18 x147 x149 h=(
 bindV (aPick x147 x149 (V.bool false) h) fun v195 h196 =>
 Meet (Jz23 Q n x0 x2 x4 x6 x18 v195 h196)):=by kernel_rfl
theorem Lz5s_eq (Q:AEnd→AH→Prop) (n:Nat) (x0 x2 x4 x6 x18:V) (h:AH):Lz5s Q (n + 1) x0 x2 x4 x6 x18 h=(
 bindV (aBuiltin Pg h .len [9] [x6]) fun v191 h192 =>
 bindV (still (aBin Pg .lss 3 x18 v191 false) h192) fun v193 h194 =>
 vcG v193 true (
 bindV (still (aBin Pg .neq 9 x6 (V.str [45]) true) h194) fun v210 h211 =>
 Meet (Gz0 Q n x0 x2 x4 x6 x18 v193 v210 h211)) (Meet (Gz0 Q n x0 x2 x4 x6 x18 v193 hole h194))):=by kernel_rfl
theorem Jz1x_eq (Q:AEnd→AH→Prop) (x0 x2 x4 x6:V) (h:AH):Jz1x Q x0 x2 x4 x6 h=(
 bindV (still (aFieldAddr Pg 73 x4 0) h) fun v31 h32 =>
 bindV (aLoadV Pg h32 5 v31) fun v33 h34 =>
 bindV (still (aBin Pg .eql 5 v33 (V.int .u8 0) true) h34) fun v35 h36 =>
 vcIf v35 (
 ACalls Pg 191 [x6] h36 (aEnd (fun v37 h38 =>
 bindV (still (aExtract v37 0) h38) fun v39 h40 =>
 bindV (still (aExtract v37 1) h40) fun v41 h42 =>
 ACalls Pg 193 [v39] h42 (aEnd (fun v43 h44 =>
 bindV (still (aExtract v43 0) h44) fun v45 h46 =>
 bindV (still (aExtract v43 1) h46) fun v47 h48 =>
 bindV (still (aConv Pg h48 49 3 v45) h48) fun v49 h50 =>
 bindV (still (aFieldAddr Pg 73 x4 1) h50) fun v51 h52 =>
 bindV (aStoreV Pg h52 3 v51 v49) fun _ h54 =>
 ACalls Pg 191 [v41] h54 (aEnd (fun v55 h56 =>
 bindV (still (aExtract v55 0) h56) fun v57 h58 =>
 bindV (still (aExtract v55 1) h58) fun v59 h60 =>
 ACalls Pg 114 [] h60 (aEnd (fun v61 h62 =>
 bindV (aBuiltin Pg h62 .len [222] [v61]) fun v63 h64 =>
 ∃ n,Meet (Lz5r Q n x0 x2 x4 v59 v57 v61 v63 (V.int .i64 0) h64)) fun v h=>Q (.panic v) h)) fun v h=>Q (.panic v) h)) fun v h=>Q (.panic v) h)) fun v h=>Q (.panic v) h)) (
 bindV (still (aBin Pg .eql 5 v33 (V.int .u8 5) true) h36) fun v189 h190 =>
 vcIf v189 (
 ∃ n,Meet (Lz5s Q n x0 x2 x4 x6 (V.int .i64 0) h190)) (
 ACalls Pg 193 [x6] h190 (aEnd (fun v212 h213 =>
 bindV (still (aExtract v212 0) h213) fun v214 h215 =>
 bindV (still (aExtract v212 1) h215) fun v216 h217 =>
 bindV (still (aConv Pg h217 49 3 v214) h217) fun v218 h219 =>
 bindV (still (aFieldAddr Pg 73 x4 1) h219) fun v220 h221 =>
 bindV (aStoreV Pg h221 3 v220 v218) fun _ h223 =>
 Meet (Jz26 Q x0 x2 x4 h223)) fun v h=>Q (.panic v) h)))):=by kernel_rfl
theorem Lz5q_eq (Q:AEnd→AH→Prop) (n:Nat) (x0 x2 x4 x5 x6 x28 x29 x30:V) (h:AH):Lz5q Q (n + 1) x0 x2 x4 x5 x6 x28 x29 x30 h=(
 bindV (still (aBin Pg .lss 3 x30 x29 false) h) fun v15 h16 =>
 vcIf v15 (
 Meet (Jz1v Q n x0 x2 x4 x5 x6 x28 x29 x30 h16)) (
 Meet (Jz1x Q x0 x2 x4 x6 h16))):=by kernel_rfl
theorem S112 (Q:AEnd→AH→Prop) (a0:V) (h:AH):vc Pg N112 B112 K112 (vcRet Pg R112 Q) (initEnv 0 [a0]) h=(
 bindV (aAlloc Pg h 73) fun v1 h2 =>
 bindV (aAlloc Pg h2 73) fun v3 h4 =>
 ACalls Pg 191 [a0] h4 (aEnd (fun v5 h6 =>
 bindV (still (aExtract v5 0) h6) fun v7 h8 =>
 bindV (still (aExtract v5 1) h8) fun v9 h10 =>
 ACalls Pg 192 [] h10 (aEnd (fun v11 h12 =>
 bindV (aBuiltin Pg h12 .len [337] [v11]) fun v13 h14 =>
 ∃ n,Meet (Lz5q Q n a0 v1 v3 v7 v9 v11 v13 (V.int .i64 0) h14)) fun v h=>Q (.panic v) h)) fun v h=>Q (.panic v) h)):=by kernel_rfl
theorem C112 (Q:AEnd→AH→Prop) (a0:V) (h:AH) (c :
 bindV (aAlloc Pg h 73) fun v1 h2 =>
 bindV (aAlloc Pg h2 73) fun v3 h4 =>
 ACalls Pg 191 [a0] h4 (aEnd (fun v5 h6 =>
 bindV (still (aExtract v5 0) h6) fun v7 h8 =>
 bindV (still (aExtract v5 1) h8) fun v9 h10 =>
 ACalls Pg 192 [] h10 (aEnd (fun v11 h12 =>
 bindV (aBuiltin Pg h12 .len [337] [v11]) fun v13 h14 =>
 ∃ n,Meet (Lz5q Q n a0 v1 v3 v7 v9 v11 v13 (V.int .i64 0) h14)) fun v h=>Q (.panic v) h)) fun v h=>Q (.panic v) h)):ACalls Pg 112 [a0] h Q :=
 acalls_of_vc okP Tryz.func112 (show Tryz.f112.body=some B112 from by kernel_rfl) K112 (by rw [← S112 Q a0 h] at c;exact c)
noncomputable def B122:Code:=(Tryz.f122.body).getD .skip
def R122:List ResultVar:=[.tmp 2,.tmp 3]
abbrev N122:Nat:=217
def K122:KT:=(.seq .leaf (.seq .leaf (.join (.join (.reg [[1,4,18,21],[1,4,23,26],[1,4,28,31]]) (.two (.seq .leaf .leaf [2,3]) .leaf) [1,4,32]) (.seq .leaf (.seq .leaf (.join (.join (.reg [[1,5,6,43,46],[1,5,6,48,52],[1,5,6,48,52,56],[1,5,6,48,57]]) (.two (.seq .leaf .leaf [2,3]) .leaf) [1,5,6,58]) (.join (.seq .leaf (.one (.seq .leaf (.two (.seq .leaf (.join (.join (.reg [[1,5,6,7,74,80]]) (.two (.seq .leaf .leaf [2,3]) .leaf) [1,5,6,7,81]) (.seq .leaf (.join (.join (.reg [[1,5,6,8,90,93],[1,5,6,8,95,98],[1,5,6,8,100,104],[1,5,6,8,106,110],[1,5,6,8,106,110,113],[1,5,6,8,106,114],[1,5,6,8,116,120],[1,5,6,8,116,120,123],[1,5,6,8,116,124],[1,5,6,8,126,130],[1,5,6,8,126,130,133],[1,5,6,8,126,134],[1,5,6,8,136,140],[1,5,6,8,136,140,143],[1,5,6,8,136,144]]) (.two (.seq .leaf .leaf [2,3]) .leaf) [1,5,6,8,145]) (.seq (.eff [7]) (.join (.seq .leaf (.two .leaf .leaf) [5,6,8,156]) (.join (.seq .leaf (.two .leaf .leaf) [5,6,8,164]) (.seq .leaf (.two (.eff [8]) .leaf) [5,6,173]) [5,6,8]) [5,6,8]) [5,6,8]) [1,5,6,8]) [1,5,6,8]) [1,5,6,7]) [1,5,6,7]) (.seq .leaf (.two (.join (.join (.reg [[1,5,189,193]]) (.two (.seq .leaf .leaf [2,3]) .leaf) [1,5,194]) (.seq .leaf (.join (.seq .leaf (.one (.loop (.seq .leaf (.join (.two .leaf .leaf) (.join (.one (.seq .leaf (.seq .leaf (.two .leaf .leaf) [1,5,198,199,200,204]) [1,5,10,198,199,200])) .leaf [1,5,198,199,200]) [1,5,198,199,200]) [1,5,198,199,200,201]) [1,5,198,199,200])) [1,5,198,199,200]) (.seq .leaf (.two .leaf .leaf) [5,213]) [1,5]) [1,5]) [1,5]) .leaf) [1,5,184])) [1,5,6,60,68])) [1,5,6,60]) (.seq .leaf .leaf [2,3]) [5]) [1,5,6]) [1,5,6]) [1,5]) [1,4]) [1,4]) [1])
def Jz3f (Q:AEnd→AH→Prop) (x5:V) (h:AH):Prop:=vcAt Pg N122 B122 K122 [1,1,1,1,1,1,1] [] (vcRet Pg R122 Q) [(5,x5)] h
def Jz39 (Q:AEnd→AH→Prop) (x5 x6 x8:V) (h:AH):Prop:=vcAt Pg N122 B122 K122 [1,1,1,1,1,1,0,1,0,1,0,1,1,1,1,1,1,1] [] (vcRet Pg R122 Q) [(5,x5),(6,x6),(8,x8)] h
def Jz38 (Q:AEnd→AH→Prop) (x5 x6 x8:V) (h:AH):Prop:=vcAt Pg N122 B122 K122 [1,1,1,1,1,1,0,1,0,1,0,1,1,1,1,1,1] [] (vcRet Pg R122 Q) [(5,x5),(6,x6),(8,x8)] h
def Jz37 (Q:AEnd→AH→Prop) (x1 x5 x6 x8:V) (h:AH):Prop:=vcAt Pg N122 B122 K122 [1,1,1,1,1,1,0,1,0,1,0,1,1,1,1] [] (vcRet Pg R122 Q) [(1,x1),(5,x5),(6,x6),(8,x8)] h
def Jz36 (Q:AEnd→AH→Prop) (x1 x5 x6 x8 x145:V) (h:AH):Prop:=vcAt Pg N122 B122 K122 [1,1,1,1,1,1,0,1,0,1,0,1,1,1,0,1] [] (vcRet Pg R122 Q) [(1,x1),(5,x5),(6,x6),(8,x8),(145,x145)] h
def Gzu (Q:AEnd→AH→Prop) (x1 x5 x6 x8 x136 x144:V) (h:AH):Prop:=segAt Pg N122 B122 K122 [1,1,1,1,1,1,0,1,0,1,0,1,1,1,0,0] 22 15 [] (vcRet Pg R122 Q) [(1,x1),(5,x5),(6,x6),(8,x8),(136,x136),(144,x144)] h
def Gzt (Q:AEnd→AH→Prop) (x1 x5 x6 x8 x136 x140 x143:V) (h:AH):Prop:=segAt Pg N122 B122 K122 [1,1,1,1,1,1,0,1,0,1,0,1,1,1,0,0] 21 14 [] (vcRet Pg R122 Q) [(1,x1),(5,x5),(6,x6),(8,x8),(136,x136),(140,x140),(143,x143)] h
def Gzs (Q:AEnd→AH→Prop) (x1 x5 x6 x8 x136 x140:V) (h:AH):Prop:=segAt Pg N122 B122 K122 [1,1,1,1,1,1,0,1,0,1,0,1,1,1,0,0] 20 13 [] (vcRet Pg R122 Q) [(1,x1),(5,x5),(6,x6),(8,x8),(136,x136),(140,x140)] h
def Gzr (Q:AEnd→AH→Prop) (x1 x5 x6 x8 x126 x134:V) (h:AH):Prop:=segAt Pg N122 B122 K122 [1,1,1,1,1,1,0,1,0,1,0,1,1,1,0,0] 18 12 [] (vcRet Pg R122 Q) [(1,x1),(5,x5),(6,x6),(8,x8),(126,x126),(134,x134)] h
def Gzq (Q:AEnd→AH→Prop) (x1 x5 x6 x8 x126 x130 x133:V) (h:AH):Prop:=segAt Pg N122 B122 K122 [1,1,1,1,1,1,0,1,0,1,0,1,1,1,0,0] 17 11 [] (vcRet Pg R122 Q) [(1,x1),(5,x5),(6,x6),(8,x8),(126,x126),(130,x130),(133,x133)] h
def Gzp (Q:AEnd→AH→Prop) (x1 x5 x6 x8 x126 x130:V) (h:AH):Prop:=segAt Pg N122 B122 K122 [1,1,1,1,1,1,0,1,0,1,0,1,1,1,0,0] 16 10 [] (vcRet Pg R122 Q) [(1,x1),(5,x5),(6,x6),(8,x8),(126,x126),(130,x130)] h
def Gzo (Q:AEnd→AH→Prop) (x1 x5 x6 x8 x116 x124:V) (h:AH):Prop:=segAt Pg N122 B122 K122 [1,1,1,1,1,1,0,1,0,1,0,1,1,1,0,0] 14 9 [] (vcRet Pg R122 Q) [(1,x1),(5,x5),(6,x6),(8,x8),(116,x116),(124,x124)] h
def Gzn (Q:AEnd→AH→Prop) (x1 x5 x6 x8 x116 x120 x123:V) (h:AH):Prop:=segAt Pg N122 B122 K122 [1,1,1,1,1,1,0,1,0,1,0,1,1,1,0,0] 13 8 [] (vcRet Pg R122 Q) [(1,x1),(5,x5),(6,x6),(8,x8),(116,x116),(120,x120),(123,x123)] h
def Gzm (Q:AEnd→AH→Prop) (x1 x5 x6 x8 x116 x120:V) (h:AH):Prop:=segAt Pg N122 B122 K122 [1,1,1,1,1,1,0,1,0,1,0,1,1,1,0,0] 12 7 [] (vcRet Pg R122 Q) [(1,x1),(5,x5),(6,x6),(8,x8),(116,x116),(120,x120)] h
def Gzl (Q:AEnd→AH→Prop) (x1 x5 x6 x8 x106 x114:V) (h:AH):Prop:=segAt Pg N122 B122 K122 [1,1,1,1,1,1,0,1,0,1,0,1,1,1,0,0] 10 6 [] (vcRet Pg R122 Q) [(1,x1),(5,x5),(6,x6),(8,x8),(106,x106),(114,x114)] h
def Gzk (Q:AEnd→AH→Prop) (x1 x5 x6 x8 x106 x110 x113:V) (h:AH):Prop:=segAt Pg N122 B122 K122 [1,1,1,1,1,1,0,1,0,1,0,1,1,1,0,0] 9 5 [] (vcRet Pg R122 Q) [(1,x1),(5,x5),(6,x6),(8,x8),(106,x106),(110,x110),(113,x113)] h
def Gzj (Q:AEnd→AH→Prop) (x1 x5 x6 x8 x106 x110:V) (h:AH):Prop:=segAt Pg N122 B122 K122 [1,1,1,1,1,1,0,1,0,1,0,1,1,1,0,0] 8 4 [] (vcRet Pg R122 Q) [(1,x1),(5,x5),(6,x6),(8,x8),(106,x106),(110,x110)] h
def Gzi (Q:AEnd→AH→Prop) (x1 x5 x6 x8 x100 x104:V) (h:AH):Prop:=segAt Pg N122 B122 K122 [1,1,1,1,1,1,0,1,0,1,0,1,1,1,0,0] 6 3 [] (vcRet Pg R122 Q) [(1,x1),(5,x5),(6,x6),(8,x8),(100,x100),(104,x104)] h
def Gzh (Q:AEnd→AH→Prop) (x1 x5 x6 x8 x95 x98:V) (h:AH):Prop:=segAt Pg N122 B122 K122 [1,1,1,1,1,1,0,1,0,1,0,1,1,1,0,0] 4 2 [] (vcRet Pg R122 Q) [(1,x1),(5,x5),(6,x6),(8,x8),(95,x95),(98,x98)] h
def Gzg (Q:AEnd→AH→Prop) (x1 x5 x6 x8 x90 x93:V) (h:AH):Prop:=segAt Pg N122 B122 K122 [1,1,1,1,1,1,0,1,0,1,0,1,1,1,0,0] 2 1 [] (vcRet Pg R122 Q) [(1,x1),(5,x5),(6,x6),(8,x8),(90,x90),(93,x93)] h
def Jz35 (Q:AEnd→AH→Prop) (x1 x5 x6 x7:V) (h:AH):Prop:=vcAt Pg N122 B122 K122 [1,1,1,1,1,1,0,1,0,1,0,1,1] [] (vcRet Pg R122 Q) [(1,x1),(5,x5),(6,x6),(7,x7)] h
def Jz34 (Q:AEnd→AH→Prop) (x1 x5 x6 x7 x81:V) (h:AH):Prop:=vcAt Pg N122 B122 K122 [1,1,1,1,1,1,0,1,0,1,0,1,0,1] [] (vcRet Pg R122 Q) [(1,x1),(5,x5),(6,x6),(7,x7),(81,x81)] h
def Gzf (Q:AEnd→AH→Prop) (x1 x5 x6 x7 x74 x80:V) (h:AH):Prop:=segAt Pg N122 B122 K122 [1,1,1,1,1,1,0,1,0,1,0,1,0,0] 2 1 [] (vcRet Pg R122 Q) [(1,x1),(5,x5),(6,x6),(7,x7),(74,x74),(80,x80)] h
def Jz3d (Q:AEnd→AH→Prop) (n:Nat) (x1 x5 x198 x199 x200:V) (h:AH):Prop:=vcAt Pg N122 B122 K122 [1,1,1,1,1,1,0,1,0,1,1,1,0,1,1,0,1,0,0,1,1,1] [n] (vcRet Pg R122 Q) [(1,x1),(5,x5),(198,x198),(199,x199),(200,x200)] h
def Jz3c (Q:AEnd→AH→Prop) (n:Nat) (x1 x5 x198 x199 x200:V) (h:AH):Prop:=vcAt Pg N122 B122 K122 [1,1,1,1,1,1,0,1,0,1,1,1,0,1,1,0,1,0,0,1,1] [n] (vcRet Pg R122 Q) [(1,x1),(5,x5),(198,x198),(199,x199),(200,x200)] h
def Jz3e (Q:AEnd→AH→Prop) (x1 x5:V) (h:AH):Prop:=vcAt Pg N122 B122 K122 [1,1,1,1,1,1,0,1,0,1,1,1,0,1,1,1] [] (vcRet Pg R122 Q) [(1,x1),(5,x5)] h
def Lz60 (Q:AEnd→AH→Prop) (n:Nat) (x1 x5 x198 x199 x200:V) (h:AH):Prop:=loopAt Pg N122 B122 K122 [1,1,1,1,1,1,0,1,0,1,1,1,0,1,1,0,1,0] [] n (vcRet Pg R122 Q) [(1,x1),(5,x5),(198,x198),(199,x199),(200,x200)] h
def Jz3b (Q:AEnd→AH→Prop) (x1 x5:V) (h:AH):Prop:=vcAt Pg N122 B122 K122 [1,1,1,1,1,1,0,1,0,1,1,1,0,1] [] (vcRet Pg R122 Q) [(1,x1),(5,x5)] h
def Jz3a (Q:AEnd→AH→Prop) (x1 x5 x194:V) (h:AH):Prop:=vcAt Pg N122 B122 K122 [1,1,1,1,1,1,0,1,0,1,1,1,0,0,1] [] (vcRet Pg R122 Q) [(1,x1),(5,x5),(194,x194)] h
def Gzv (Q:AEnd→AH→Prop) (x1 x5 x189 x193:V) (h:AH):Prop:=segAt Pg N122 B122 K122 [1,1,1,1,1,1,0,1,0,1,1,1,0,0,0] 2 1 [] (vcRet Pg R122 Q) [(1,x1),(5,x5),(189,x189),(193,x193)] h
def Jz33 (Q:AEnd→AH→Prop) (x1 x5 x6:V) (h:AH):Prop:=vcAt Pg N122 B122 K122 [1,1,1,1,1,1] [] (vcRet Pg R122 Q) [(1,x1),(5,x5),(6,x6)] h
def Jz32 (Q:AEnd→AH→Prop) (x1 x5 x6 x58:V) (h:AH):Prop:=vcAt Pg N122 B122 K122 [1,1,1,1,1,0,1] [] (vcRet Pg R122 Q) [(1,x1),(5,x5),(6,x6),(58,x58)] h
def Gze (Q:AEnd→AH→Prop) (x1 x5 x6 x48 x57:V) (h:AH):Prop:=segAt Pg N122 B122 K122 [1,1,1,1,1,0,0] 6 4 [] (vcRet Pg R122 Q) [(1,x1),(5,x5),(6,x6),(48,x48),(57,x57)] h
def Gzd (Q:AEnd→AH→Prop) (x1 x5 x6 x48 x52 x56:V) (h:AH):Prop:=segAt Pg N122 B122 K122 [1,1,1,1,1,0,0] 5 3 [] (vcRet Pg R122 Q) [(1,x1),(5,x5),(6,x6),(48,x48),(52,x52),(56,x56)] h
def Gzc (Q:AEnd→AH→Prop) (x1 x5 x6 x48 x52:V) (h:AH):Prop:=segAt Pg N122 B122 K122 [1,1,1,1,1,0,0] 4 2 [] (vcRet Pg R122 Q) [(1,x1),(5,x5),(6,x6),(48,x48),(52,x52)] h
def Gzb (Q:AEnd→AH→Prop) (x1 x5 x6 x43 x46:V) (h:AH):Prop:=segAt Pg N122 B122 K122 [1,1,1,1,1,0,0] 2 1 [] (vcRet Pg R122 Q) [(1,x1),(5,x5),(6,x6),(43,x43),(46,x46)] h
def Jz31 (Q:AEnd→AH→Prop) (x1 x4:V) (h:AH):Prop:=vcAt Pg N122 B122 K122 [1,1,1] [] (vcRet Pg R122 Q) [(1,x1),(4,x4)] h
def Jz30 (Q:AEnd→AH→Prop) (x1 x4 x32:V) (h:AH):Prop:=vcAt Pg N122 B122 K122 [1,1,0,1] [] (vcRet Pg R122 Q) [(1,x1),(4,x4),(32,x32)] h
def Gza (Q:AEnd→AH→Prop) (x1 x4 x28 x31:V) (h:AH):Prop:=segAt Pg N122 B122 K122 [1,1,0,0] 6 3 [] (vcRet Pg R122 Q) [(1,x1),(4,x4),(28,x28),(31,x31)] h
def Gz9 (Q:AEnd→AH→Prop) (x1 x4 x23 x26:V) (h:AH):Prop:=segAt Pg N122 B122 K122 [1,1,0,0] 4 2 [] (vcRet Pg R122 Q) [(1,x1),(4,x4),(23,x23),(26,x26)] h
def Gz8 (Q:AEnd→AH→Prop) (x1 x4 x18 x21:V) (h:AH):Prop:=segAt Pg N122 B122 K122 [1,1,0,0] 2 1 [] (vcRet Pg R122 Q) [(1,x1),(4,x4),(18,x18),(21,x21)] h
theorem Jz3f_eq (Q:AEnd→AH→Prop) (x5:V) (h:AH):Jz3f Q x5 h=(
 Q (.ret (V.tup [x5,(V.bool true)])) h):=by kernel_rfl
theorem Jz39_eq (Q:AEnd→AH→Prop) (x5 x6 x8:V) (h:AH):Jz39 Q x5 x6 x8 h=(
 bindV (still (aFieldAddr Pg 225 x8 3) h) fun v134 h135 =>
 bindV (aLoadV Pg h135 4 v134) fun v136 h137 =>
 vcIf v136 (
 bindO (fstV (still (aFieldAddr Pg 57 x6 3) h137)) fun v138 =>
 bindO (fstV (aLoadV Pg h137 3 v138)) fun v139 =>
 (
 bindO (fstV (still (aConv Pg h137 3 49 v139) h137)) fun v140 =>
 (
 ∃ v141,ACalls Pg 117 [v140] h137 (pureE v141 h137)∧(
 (
 bindO (fstV (still (aFieldAddr Pg 57 x6 4) h137)) fun v142 =>
 bindO (fstV (aLoadV Pg h137 9 v142)) fun v143 =>
 (
 ∃ v144,ACalls Pg 118 [v143] h137 (pureE v144 h137)∧(
 (
 bindV (aBuildSlice Pg h137 337 3 [(0,x5),(1,v141),(2,v144)]) fun v145 h146=>(
 ∃ v147,ACalls Pg 115 [v145] h146 (pureE v147 h146)∧(
 (
 Meet (Jz3f Q v147 h146)))))))))))) (
 Meet (Jz3f Q x5 h137))):=by kernel_rfl
theorem Jz38_eq (Q:AEnd→AH→Prop) (x5 x6 x8:V) (h:AH):Jz38 Q x5 x6 x8 h=(
 bindV (still (aFieldAddr Pg 225 x8 2) h) fun v118 h119 =>
 bindV (aLoadV Pg h119 4 v118) fun v120 h121 =>
 vcIf v120 (
 bindV (still (aFieldAddr Pg 57 x6 2) h121) fun v122 h123 =>
 bindV (aLoadV Pg h123 22 v122) fun v124 h125 =>
 bindV (still (aConv Pg h125 22 49 v124) h125) fun v126 h127 =>
 ACalls Pg 117 [v126] h127 (aEnd (fun v128 h129 =>
 bindV (aBuildSlice Pg h129 337 2 [(0,x5),(1,v128)]) fun v130 h131 =>
 ACalls Pg 115 [v130] h131 (aEnd (fun v132 h133 =>
 Meet (Jz39 Q v132 x6 x8 h133)) fun v h=>Q (.panic v) h)) fun v h=>Q (.panic v) h)) (
 Meet (Jz39 Q x5 x6 x8 h121))):=by kernel_rfl
theorem Jz37_eq (Q:AEnd→AH→Prop) (x1 x5 x6 x8:V) (h:AH):Jz37 Q x1 x5 x6 x8 h=(
 bindO (fstV (still (aFieldAddr Pg 73 x1 1) h)) fun v95 =>
 bindO (fstV (aLoadV Pg h 3 v95)) fun v96 =>
 (
 bindO (fstV (still (aConv Pg h 3 49 v96) h)) fun v97 =>
 (
 ∃ v98,ACalls Pg 117 [v97] h (pureE v98 h)∧(
 (
 bindO (fstV (still (aFieldAddr Pg 225 x8 0) h)) fun v99 =>
 bindO (fstV (aLoadV Pg h 9 v99)) fun v100 =>
 (
 bindV (aBuildSlice Pg h 337 3 [(0,x5),(1,v98),(2,v100)]) fun v101 h102=>(
 ∃ v103,ACalls Pg 115 [v101] h102 (pureE v103 h102)∧(
 (
 bindV (still (aFieldAddr Pg 225 x8 1) h102) fun v104 h105 =>
 bindV (aLoadV Pg h105 4 v104) fun v106 h107 =>
 vcIf v106 (
 bindV (still (aFieldAddr Pg 57 x6 1) h107) fun v108 h109 =>
 bindV (aLoadV Pg h109 49 v108) fun v110 h111 =>
 ACalls Pg 117 [v110] h111 (aEnd (fun v112 h113 =>
 bindV (aBuildSlice Pg h113 337 2 [(0,v103),(1,v112)]) fun v114 h115 =>
 ACalls Pg 115 [v114] h115 (aEnd (fun v116 h117 =>
 Meet (Jz38 Q v116 x6 x8 h117)) fun v h=>Q (.panic v) h)) fun v h=>Q (.panic v) h)) (
 Meet (Jz38 Q v103 x6 x8 h107))))))))))):=by kernel_rfl
theorem Jz36_eq (Q:AEnd→AH→Prop) (x1 x5 x6 x8 x145:V) (h:AH):Jz36 Q x1 x5 x6 x8 x145 h=(
 vcIf x145 (
 Q (.ret (V.tup [(V.str []),(V.bool false)])) h) (
 Meet (Jz37 Q x1 x5 x6 x8 h))):=by kernel_rfl
theorem Gzu_eq (Q:AEnd→AH→Prop) (x1 x5 x6 x8 x136 x144:V) (h:AH):Gzu Q x1 x5 x6 x8 x136 x144 h=(
 bindV (aPick x136 (V.bool true) x144 h) fun v93 h94 =>
 Meet (Jz36 Q x1 x5 x6 x8 v93 h94)):=by kernel_rfl
theorem Gzt_eq (Q:AEnd→AH→Prop) (x1 x5 x6 x8 x136 x140 x143:V) (h:AH):Gzt Q x1 x5 x6 x8 x136 x140 x143 h=(
 vcG x136 false (
 bindV (aPick x140 x143 (V.bool false) h) fun v148 h149 =>
 Meet (Gzu Q x1 x5 x6 x8 x136 v148 h149)) (Meet (Gzu Q x1 x5 x6 x8 x136 hole h))):=by kernel_rfl
theorem Gzs_eq (Q:AEnd→AH→Prop) (x1 x5 x6 x8 x136 x140:V) (h:AH):Gzs Q x1 x5 x6 x8 x136 x140 h=(
 vcG x140 true (
 bindV (still (aFieldAddr Pg 57 x6 4) h) fun v150 h151 =>
 bindV (aLoadV Pg h151 9 v150) fun v152 h153 =>
 bindV (still (aBin Pg .neq 9 v152 (V.str []) true) h153) fun v154 h155 =>
 Meet (Gzt Q x1 x5 x6 x8 x136 x140 v154 h155)) (Meet (Gzt Q x1 x5 x6 x8 x136 x140 hole h))):=by kernel_rfl
theorem Gzr_eq (Q:AEnd→AH→Prop) (x1 x5 x6 x8 x126 x134:V) (h:AH):Gzr Q x1 x5 x6 x8 x126 x134 h=(
 bindV (aPick x126 (V.bool true) x134 h) fun v91 h92 =>
 vcG v91 false (
 bindV (still (aFieldAddr Pg 225 x8 4) h92) fun v156 h157 =>
 bindV (aLoadV Pg h157 4 v156) fun v158 h159 =>
 bindV (still (aUn .not v158) h159) fun v160 h161 =>
 Meet (Gzs Q x1 x5 x6 x8 v91 v160 h161)) (Meet (Gzs Q x1 x5 x6 x8 v91 hole h92))):=by kernel_rfl
theorem Gzq_eq (Q:AEnd→AH→Prop) (x1 x5 x6 x8 x126 x130 x133:V) (h:AH):Gzq Q x1 x5 x6 x8 x126 x130 x133 h=(
 vcG x126 false (
 bindV (aPick x130 x133 (V.bool false) h) fun v162 h163 =>
 Meet (Gzr Q x1 x5 x6 x8 x126 v162 h163)) (Meet (Gzr Q x1 x5 x6 x8 x126 hole h))):=by kernel_rfl
theorem Gzp_eq (Q:AEnd→AH→Prop) (x1 x5 x6 x8 x126 x130:V) (h:AH):Gzp Q x1 x5 x6 x8 x126 x130 h=(
 vcG x130 true (
 bindV (still (aFieldAddr Pg 57 x6 3) h) fun v164 h165 =>
 bindV (aLoadV Pg h165 3 v164) fun v166 h167 =>
 bindV (still (aBin Pg .gtr 3 v166 (V.int .i64 0) true) h167) fun v168 h169 =>
 Meet (Gzq Q x1 x5 x6 x8 x126 x130 v168 h169)) (Meet (Gzq Q x1 x5 x6 x8 x126 x130 hole h))):=by kernel_rfl
theorem Gzo_eq (Q:AEnd→AH→Prop) (x1 x5 x6 x8 x116 x124:V) (h:AH):Gzo Q x1 x5 x6 x8 x116 x124 h=(
 bindV (aPick x116 (V.bool true) x124 h) fun v89 h90 =>
 vcG v89 false (
 bindV (still (aFieldAddr Pg 225 x8 3) h90) fun v170 h171 =>
 bindV (aLoadV Pg h171 4 v170) fun v172 h173 =>
 bindV (still (aUn .not v172) h173) fun v174 h175 =>
 Meet (Gzp Q x1 x5 x6 x8 v89 v174 h175)) (Meet (Gzp Q x1 x5 x6 x8 v89 hole h90))):=by kernel_rfl
theorem Gzn_eq (Q:AEnd→AH→Prop) (x1 x5 x6 x8 x116 x120 x123:V) (h:AH):Gzn Q x1 x5 x6 x8 x116 x120 x123 h=(
 vcG x116 false (
 bindV (aPick x120 x123 (V.bool false) h) fun v176 h177 =>
 Meet (Gzo Q x1 x5 x6 x8 x116 v176 h177)) (Meet (Gzo Q x1 x5 x6 x8 x116 hole h))):=by kernel_rfl
theorem Gzm_eq (Q:AEnd→AH→Prop) (x1 x5 x6 x8 x116 x120:V) (h:AH):Gzm Q x1 x5 x6 x8 x116 x120 h=(
 vcG x120 true (
 bindV (still (aFieldAddr Pg 57 x6 2) h) fun v178 h179 =>
 bindV (aLoadV Pg h179 22 v178) fun v180 h181 =>
 bindV (still (aBin Pg .gtr 22 v180 (V.int .u16 0) true) h181) fun v182 h183 =>
 Meet (Gzn Q x1 x5 x6 x8 x116 x120 v182 h183)) (Meet (Gzn Q x1 x5 x6 x8 x116 x120 hole h))):=by kernel_rfl
theorem Gzl_eq (Q:AEnd→AH→Prop) (x1 x5 x6 x8 x106 x114:V) (h:AH):Gzl Q x1 x5 x6 x8 x106 x114 h=(
 bindV (aPick x106 (V.bool true) x114 h) fun v87 h88 =>
 vcG v87 false (
 bindV (still (aFieldAddr Pg 225 x8 2) h88) fun v184 h185 =>
 bindV (aLoadV Pg h185 4 v184) fun v186 h187 =>
 bindV (still (aUn .not v186) h187) fun v188 h189 =>
 Meet (Gzm Q x1 x5 x6 x8 v87 v188 h189)) (Meet (Gzm Q x1 x5 x6 x8 v87 hole h88))):=by kernel_rfl
theorem Gzk_eq (Q:AEnd→AH→Prop) (x1 x5 x6 x8 x106 x110 x113:V) (h:AH):Gzk Q x1 x5 x6 x8 x106 x110 x113 h=(
 vcG x106 false (
 bindV (aPick x110 x113 (V.bool false) h) fun v190 h191 =>
 Meet (Gzl Q x1 x5 x6 x8 x106 v190 h191)) (Meet (Gzl Q x1 x5 x6 x8 x106 hole h))):=by kernel_rfl
theorem Gzj_eq (Q:AEnd→AH→Prop) (x1 x5 x6 x8 x106 x110:V) (h:AH):Gzj Q x1 x5 x6 x8 x106 x110 h=(
 vcG x110 true (
 bindV (still (aFieldAddr Pg 57 x6 1) h) fun v192 h193 =>
 bindV (aLoadV Pg h193 49 v192) fun v194 h195 =>
 bindV (still (aBin Pg .gtr 49 v194 (V.int .u64 0) true) h195) fun v196 h197 =>
 Meet (Gzk Q x1 x5 x6 x8 x106 x110 v196 h197)) (Meet (Gzk Q x1 x5 x6 x8 x106 x110 hole h))):=by kernel_rfl
theorem Gzi_eq (Q:AEnd→AH→Prop) (x1 x5 x6 x8 x100 x104:V) (h:AH):Gzi Q x1 x5 x6 x8 x100 x104 h=(
 bindV (aPick x100 (V.bool true) x104 h) fun v85 h86 =>
 vcG v85 false (
 bindV (still (aFieldAddr Pg 225 x8 1) h86) fun v198 h199 =>
 bindV (aLoadV Pg h199 4 v198) fun v200 h201 =>
 bindV (still (aUn .not v200) h201) fun v202 h203 =>
 Meet (Gzj Q x1 x5 x6 x8 v85 v202 h203)) (Meet (Gzj Q x1 x5 x6 x8 v85 hole h86))):=by kernel_rfl
theorem Gzh_eq (Q:AEnd→AH→Prop) (x1 x5 x6 x8 x95 x98:V) (h:AH):Gzh Q x1 x5 x6 x8 x95 x98 h=(
 bindV (aPick x95 (V.bool true) x98 h) fun v83 h84 =>
 vcG v83 false (
 bindV (still (aFieldAddr Pg 57 x6 4) h84) fun v204 h205 =>
 bindV (aLoadV Pg h205 9 v204) fun v206 h207 =>
 bindV (aBuiltin Pg h207 .len [9] [v206]) fun v208 h209 =>
 bindV (still (aBin Pg .gtr 3 v208 (V.int .i64 64) true) h209) fun v210 h211 =>
 Meet (Gzi Q x1 x5 x6 x8 v83 v210 h211)) (Meet (Gzi Q x1 x5 x6 x8 v83 hole h84))):=by kernel_rfl
theorem Gzg_eq (Q:AEnd→AH→Prop) (x1 x5 x6 x8 x90 x93:V) (h:AH):Gzg Q x1 x5 x6 x8 x90 x93 h=(
 bindV (aPick x90 (V.bool true) x93 h) fun v81 h82 =>
 vcG v81 false (
 bindV (still (aFieldAddr Pg 57 x6 3) h82) fun v212 h213 =>
 bindV (aLoadV Pg h213 3 v212) fun v214 h215 =>
 bindV (still (aBin Pg .geq 3 v214 (V.int .i64 2147483648) true) h215) fun v216 h217 =>
 Meet (Gzh Q x1 x5 x6 x8 v81 v216 h217)) (Meet (Gzh Q x1 x5 x6 x8 v81 hole h82))):=by kernel_rfl
theorem Jz35_eq (Q:AEnd→AH→Prop) (x1 x5 x6 x7:V) (h:AH):Jz35 Q x1 x5 x6 x7 h=(
 bindV (still (aFieldAddr Pg 57 x6 0) h) fun v63 h64 =>
 bindV (aLoadV Pg h64 5 v63) fun v65 h66 =>
 bindV (still (aIndexAddr Pg 222 x7 v65) h66) fun v67 h68 =>
 bindV (aLoadV Pg h68 225 v67) fun v69 h70 =>
 bindV (aAlloc Pg h70 225) fun v71 h72 =>
 bindV (aStoreV Pg h72 225 v71 v69) fun _ h74 =>
 bindV (still (aFieldAddr Pg 57 x6 1) h74) fun v75 h76 =>
 bindV (aLoadV Pg h76 49 v75) fun v77 h78 =>
 bindV (still (aBin Pg .geq 49 v77 (V.int .u64 2147483648) true) h78) fun v79 h80 =>
 vcG v79 false (
 bindV (still (aFieldAddr Pg 57 x6 3) h80) fun v218 h219 =>
 bindV (aLoadV Pg h219 3 v218) fun v220 h221 =>
 bindV (still (aBin Pg .lss 3 v220 (V.int .i64 0) true) h221) fun v222 h223 =>
 Meet (Gzg Q x1 x5 x6 v71 v79 v222 h223)) (Meet (Gzg Q x1 x5 x6 v71 v79 hole h80))):=by kernel_rfl
theorem Jz34_eq (Q:AEnd→AH→Prop) (x1 x5 x6 x7 x81:V) (h:AH):Jz34 Q x1 x5 x6 x7 x81 h=(
 vcIf x81 (
 Q (.ret (V.tup [(V.str []),(V.bool false)])) h) (
 Meet (Jz35 Q x1 x5 x6 x7 h))):=by kernel_rfl
theorem Gzf_eq (Q:AEnd→AH→Prop) (x1 x5 x6 x7 x74 x80:V) (h:AH):Gzf Q x1 x5 x6 x7 x74 x80 h=(
 bindV (aPick x74 (V.bool true) x80 h) fun v61 h62 =>
 Meet (Jz34 Q x1 x5 x6 x7 v61 h62)):=by kernel_rfl
theorem Jz3d_eq (Q:AEnd→AH→Prop) (n:Nat) (x1 x5 x198 x199 x200:V) (h:AH):Jz3d Q n x1 x5 x198 x199 x200 h=(
 bindV (still (aBin Pg .add 3 x200 (V.int .i64 1) true) h) fun v260 h261 =>
 Meet (Lz60 Q n x1 x5 x198 x199 v260 h261)):=by kernel_rfl
theorem Jz3c_eq (Q:AEnd→AH→Prop) (n:Nat) (x1 x5 x198 x199 x200:V) (h:AH):Jz3c Q n x1 x5 x198 x199 x200 h=(
 bindV (still (aIndexAddr Pg 71 x198 x200) h) fun v254 h255 =>
 bindV (aLoadV Pg h255 4 v254) fun v256 h257 =>
 vcIf v256 (
 bindV (still (aBin Pg .add 9 x5 (V.str [49]) true) h257) fun v258 h259 =>
 Meet (Jz3d Q n x1 v258 x198 x199 x200 h259)) (
 bindV (still (aBin Pg .add 9 x5 (V.str [48]) true) h257) fun v262 h263 =>
 Meet (Jz3d Q n x1 v262 x198 x199 x200 h263))):=by kernel_rfl
theorem Jz3e_eq (Q:AEnd→AH→Prop) (x1 x5:V) (h:AH):Jz3e Q x1 x5 h=(
 bindV (still (aFieldAddr Pg 73 x1 4) h) fun v264 h265 =>
 bindV (aLoadV Pg h265 71 v264) fun v266 h267 =>
 bindV (aBuiltin Pg h267 .len [71] [v266]) fun v268 h269 =>
 bindV (still (aBin Pg .eql 3 v268 (V.int .i64 0) true) h269) fun v270 h271 =>
 vcIf v270 (
 bindV (still (aBin Pg .add 9 x5 (V.str [45]) true) h271) fun v272 h273 =>
 Meet (Jz3f Q v272 h273)) (
 Meet (Jz3f Q x5 h271))):=by kernel_rfl
theorem Lz60_eq (Q:AEnd→AH→Prop) (n:Nat) (x1 x5 x198 x199 x200:V) (h:AH):Lz60 Q (n + 1) x1 x5 x198 x199 x200 h=(
 bindV (still (aBin Pg .lss 3 x200 x199 false) h) fun v252 h253 =>
 vcIf v252 (
 Meet (Jz3c Q n x1 x5 x198 x199 x200 h253)) (
 Meet (Jz3e Q x1 x5 h253))):=by kernel_rfl
theorem Jz3b_eq (Q:AEnd→AH→Prop) (x1 x5:V) (h:AH):Jz3b Q x1 x5 h=(
 bindV (still (aBin Pg .add 9 x5 (V.str [32]) true) h) fun v244 h245 =>
 bindV (still (aFieldAddr Pg 73 x1 4) h245) fun v246 h247 =>
 bindV (aLoadV Pg h247 71 v246) fun v248 h249 =>
 bindV (aBuiltin Pg h249 .len [71] [v248]) fun v250 h251 =>
 ∃ n,Meet (Lz60 Q n x1 v244 v248 v250 (V.int .i64 0) h251)):=by kernel_rfl
theorem Jz3a_eq (Q:AEnd→AH→Prop) (x1 x5 x194:V) (h:AH):Jz3a Q x1 x5 x194 h=(
 vcIf x194 (
 Q (.ret (V.tup [(V.str []),(V.bool false)])) h) (
 Meet (Jz3b Q x1 x5 h))):=by kernel_rfl
theorem Gzv_eq (Q:AEnd→AH→Prop) (x1 x5 x189 x193:V) (h:AH):Gzv Q x1 x5 x189 x193 h=(
 bindV (aPick x189 (V.bool true) x193 h) fun v242 h243 =>
 Meet (Jz3a Q x1 x5 v242 h243)):=by kernel_rfl
theorem Jz33_eq (Q:AEnd→AH→Prop) (x1 x5 x6:V) (h:AH):Jz33 Q x1 x5 x6 h=(
 bindV (still (aFieldAddr Pg 73 x1 0) h) fun v47 h48 =>
 bindV (aLoadV Pg h48 5 v47) fun v49 h50 =>
 bindV (still (aBin Pg .eql 5 v49 (V.int .u8 0) true) h50) fun v51 h52 =>
 vcIf v51 (
 ACalls Pg 114 [] h52 (aEnd (fun v53 h54 =>
 bindV (still (aFieldAddr Pg 73 x1 1) h54) fun v55 h56 =>
 bindV (aLoadV Pg h56 3 v55) fun v57 h58 =>
 bindV (still (aBin Pg .geq 3 v57 (V.int .i64 10) true) h58) fun v59 h60 =>
 vcG v59 false (
 bindV (still (aFieldAddr Pg 57 x6 0) h60) fun v224 h225 =>
 bindV (aLoadV Pg h225 5 v224) fun v226 h227 =>
 bindV (still (aConv Pg h227 5 3 v226) h227) fun v228 h229 =>
 bindV (aBuiltin Pg h229 .len [222] [v53]) fun v230 h231 =>
 bindV (still (aBin Pg .geq 3 v228 v230 false) h231) fun v232 h233 =>
 Meet (Gzf Q x1 x5 x6 v53 v59 v232 h233)) (Meet (Gzf Q x1 x5 x6 v53 v59 hole h60))) fun v h=>Q (.panic v) h)) (
 bindV (still (aBin Pg .eql 5 v49 (V.int .u8 5) true) h52) fun v234 h235 =>
 vcIf v234 (
 bindV (still (aFieldAddr Pg 73 x1 1) h235) fun v236 h237 =>
 bindV (aLoadV Pg h237 3 v236) fun v238 h239 =>
 bindV (still (aBin Pg .neq 3 v238 (V.int .i64 0) true) h239) fun v240 h241 =>
 vcG v240 false (
 bindV (still (aFieldAddr Pg 73 x1 4) h241) fun v274 h275 =>
 bindV (aLoadV Pg h275 71 v274) fun v276 h277 =>
 bindV (aBuiltin Pg h277 .len [71] [v276]) fun v278 h279 =>
 bindV (still (aBin Pg .gtr 3 v278 (V.int .i64 2000) true) h279) fun v280 h281 =>
 Meet (Gzv Q x1 x5 v240 v280 h281)) (Meet (Gzv Q x1 x5 v240 hole h241))) (
 bindV (still (aFieldAddr Pg 73 x1 1) h235) fun v282 h283 =>
 bindV (aLoadV Pg h283 3 v282) fun v284 h285 =>
 bindV (still (aConv Pg h285 3 49 v284) h285) fun v286 h287 =>
 ACalls Pg 117 [v286] h287 (aEnd (fun v288 h289 =>
 bindV (aBuildSlice Pg h289 337 2 [(0,x5),(1,v288)]) fun v290 h291 =>
 ACalls Pg 115 [v290] h291 (aEnd (fun v292 h293 =>
 Meet (Jz3f Q v292 h293)) fun v h=>Q (.panic v) h)) fun v h=>Q (.panic v) h)))):=by kernel_rfl
theorem Jz32_eq (Q:AEnd→AH→Prop) (x1 x5 x6 x58:V) (h:AH):Jz32 Q x1 x5 x6 x58 h=(
 vcIf x58 (
 Q (.ret (V.tup [(V.str []),(V.bool false)])) h) (
 Meet (Jz33 Q x1 x5 x6 h))):=by kernel_rfl
theorem Gze_eq (Q:AEnd→AH→Prop) (x1 x5 x6 x48 x57:V) (h:AH):Gze Q x1 x5 x6 x48 x57 h=(
 bindV (aPick x48 (V.bool true) x57 h) fun v45 h46 =>
 Meet (Jz32 Q x1 x5 x6 v45 h46)):=by kernel_rfl
theorem Gzd_eq (Q:AEnd→AH→Prop) (x1 x5 x6 x48 x52 x56:V) (h:AH):Gzd Q x1 x5 x6 x48 x52 x56 h=(
 vcG x48 false (
 bindV (aPick x52 x56 (V.bool false) h) fun v294 h295 =>
 Meet (Gze Q x1 x5 x6 x48 v294 h295)) (Meet (Gze Q x1 x5 x6 x48 hole h))):=by kernel_rfl
theorem Gzc_eq (Q:AEnd→AH→Prop) (x1 x5 x6 x48 x52:V) (h:AH):Gzc Q x1 x5 x6 x48 x52 h=(
 vcG x52 true (
 bindV (still (aFieldAddr Pg 73 x1 4) h) fun v296 h297 =>
 bindV (aLoadV Pg h297 71 v296) fun v298 h299 =>
 bindV (aBuiltin Pg h299 .len [71] [v298]) fun v300 h301 =>
 bindV (still (aBin Pg .gtr 3 v300 (V.int .i64 0) true) h301) fun v302 h303 =>
 Meet (Gzd Q x1 x5 x6 x48 x52 v302 h303)) (Meet (Gzd Q x1 x5 x6 x48 x52 hole h))):=by kernel_rfl
theorem Gzb_eq (Q:AEnd→AH→Prop) (x1 x5 x6 x43 x46:V) (h:AH):Gzb Q x1 x5 x6 x43 x46 h=(
 bindV (aPick x43 x46 (V.bool false) h) fun v43 h44 =>
 vcG v43 false (
 bindV (still (aFieldAddr Pg 73 x1 0) h44) fun v304 h305 =>
 bindV (aLoadV Pg h305 5 v304) fun v306 h307 =>
 bindV (still (aBin Pg .neq 5 v306 (V.int .u8 5) true) h307) fun v308 h309 =>
 Meet (Gzc Q x1 x5 x6 v43 v308 h309)) (Meet (Gzc Q x1 x5 x6 v43 hole h44))):=by kernel_rfl
theorem Jz31_eq (Q:AEnd→AH→Prop) (x1 x4:V) (h:AH):Jz31 Q x1 x4 h=(
 bindV (still (aFieldAddr Pg 73 x1 0) h) fun v21 h22 =>
 bindV (aLoadV Pg h22 5 v21) fun v23 h24 =>
 bindV (still (aIndexAddr Pg 337 x4 v23) h24) fun v25 h26 =>
 bindV (aLoadV Pg h26 9 v25) fun v27 h28 =>
 bindV (still (aFieldAddr Pg 73 x1 3) h28) fun v29 h30 =>
 bindV (aLoadV Pg h30 57 v29) fun v31 h32 =>
 bindV (aAlloc Pg h32 57) fun v33 h34 =>
 bindV (aStoreV Pg h34 57 v33 v31) fun _ h36 =>
 bindV (still (aFieldAddr Pg 73 x1 0) h36) fun v37 h38 =>
 bindV (aLoadV Pg h38 5 v37) fun v39 h40 =>
 bindV (still (aBin Pg .neq 5 v39 (V.int .u8 0) true) h40) fun v41 h42 =>
 vcG v41 true (
 bindV (aLoadV Pg h42 57 v33) fun v310 h311 =>
 bindV (still (aBuild Pg 57 []) h311) fun v312 h313 =>
 bindV (still (aBin Pg .neq 57 v310 v312 false) h313) fun v314 h315 =>
 Meet (Gzb Q x1 v27 v33 v41 v314 h315)) (Meet (Gzb Q x1 v27 v33 v41 hole h42))):=by kernel_rfl
theorem Jz30_eq (Q:AEnd→AH→Prop) (x1 x4 x32:V) (h:AH):Jz30 Q x1 x4 x32 h=(
 vcIf x32 (
 Q (.ret (V.tup [(V.str []),(V.bool false)])) h) (
 Meet (Jz31 Q x1 x4 h))):=by kernel_rfl
theorem Gza_eq (Q:AEnd→AH→Prop) (x1 x4 x28 x31:V) (h:AH):Gza Q x1 x4 x28 x31 h=(
 bindV (aPick x28 (V.bool true) x31 h) fun v19 h20 =>
 Meet (Jz30 Q x1 x4 v19 h20)):=by kernel_rfl
theorem Gz9_eq (Q:AEnd→AH→Prop) (x1 x4 x23 x26:V) (h:AH):Gz9 Q x1 x4 x23 x26 h=(
 bindV (aPick x23 (V.bool true) x26 h) fun v17 h18 =>
 vcG v17 false (
 bindV (still (aFieldAddr Pg 73 x1 2) h18) fun v316 h317 =>
 bindV (aLoadV Pg h317 3 v316) fun v318 h319 =>
 bindV (still (aBin Pg .neq 3 v318 (V.int .i64 0) true) h319) fun v320 h321 =>
 Meet (Gza Q x1 x4 v17 v320 h321)) (Meet (Gza Q x1 x4 v17 hole h18))):=by kernel_rfl
theorem Gz8_eq (Q:AEnd→AH→Prop) (x1 x4 x18 x21:V) (h:AH):Gz8 Q x1 x4 x18 x21 h=(
 bindV (aPick x18 (V.bool true) x21 h) fun v15 h16 =>
 vcG v15 false (
 bindV (still (aFieldAddr Pg 73 x1 1) h16) fun v322 h323 =>
 bindV (aLoadV Pg h323 3 v322) fun v324 h325 =>
 bindV (still (aBin Pg .geq 3 v324 (V.int .i64 2147483648) true) h325) fun v326 h327 =>
 Meet (Gz9 Q x1 x4 v15 v326 h327)) (Meet (Gz9 Q x1 x4 v15 hole h16))):=by kernel_rfl
theorem S122 (Q:AEnd→AH→Prop) (a0:V) (h:AH):vc Pg N122 B122 K122 (vcRet Pg R122 Q) (initEnv 0 [a0]) h=(
 bindV (aNew Pg h 73 a0) fun v1 h2 =>
 ACalls Pg 192 [] h2 (aEnd (fun v3 h4 =>
 bindV (still (aFieldAddr Pg 73 v1 0) h4) fun v5 h6 =>
 bindV (aLoadV Pg h6 5 v5) fun v7 h8 =>
 bindV (still (aConv Pg h8 5 3 v7) h8) fun v9 h10 =>
 bindV (aBuiltin Pg h10 .len [337] [v3]) fun v11 h12 =>
 bindV (still (aBin Pg .geq 3 v9 v11 false) h12) fun v13 h14 =>
 vcG v13 false (
 bindV (still (aFieldAddr Pg 73 v1 1) h14) fun v328 h329 =>
 bindV (aLoadV Pg h329 3 v328) fun v330 h331 =>
 bindV (still (aBin Pg .lss 3 v330 (V.int .i64 0) true) h331) fun v332 h333 =>
 Meet (Gz8 Q v1 v3 v13 v332 h333)) (Meet (Gz8 Q v1 v3 v13 hole h14))) fun v h=>Q (.panic v) h)):=by kernel_rfl
theorem C122 (Q:AEnd→AH→Prop) (a0:V) (h:AH) (c :
 bindV (aNew Pg h 73 a0) fun v1 h2 =>
 ACalls Pg 192 [] h2 (aEnd (fun v3 h4 =>
 bindV (still (aFieldAddr Pg 73 v1 0) h4) fun v5 h6 =>
 bindV (aLoadV Pg h6 5 v5) fun v7 h8 =>
 bindV (still (aConv Pg h8 5 3 v7) h8) fun v9 h10 =>
 bindV (aBuiltin Pg h10 .len [337] [v3]) fun v11 h12 =>
 bindV (still (aBin Pg .geq 3 v9 v11 false) h12) fun v13 h14 =>
 vcG v13 false (
 bindV (still (aFieldAddr Pg 73 v1 1) h14) fun v328 h329 =>
 bindV (aLoadV Pg h329 3 v328) fun v330 h331 =>
 bindV (still (aBin Pg .lss 3 v330 (V.int .i64 0) true) h331) fun v332 h333 =>
 Meet (Gz8 Q v1 v3 v13 v332 h333)) (Meet (Gz8 Q v1 v3 v13 hole h14))) fun v h=>Q (.panic v) h)):ACalls Pg 122 [a0] h Q :=
 acalls_of_vc okP Tryz.func122 (show Tryz.f122.body=some B122 from by kernel_rfl) K122 (by rw [← S122 Q a0 h] at c;exact c)
noncomputable def B191:Code:=(Tryz.f191.body).getD .skip
def R191:List ResultVar:=[.tmp 2,.tmp 3]
abbrev N191:Nat:=15
def K191:KT:=(.seq .leaf (.seq .leaf (.seq .leaf .leaf [2,3]) [4,5]) [0])
theorem S191 (Q:AEnd→AH→Prop) (a0:V) (h:AH):vc Pg N191 B191 K191 (vcRet Pg R191 Q) (initEnv 0 [a0]) h=(
 ACalls Pg 111 [a0,(V.str [32])] h (aEnd (fun v1 h2 =>
 bindV (still (aExtract v1 0) h2) fun v3 h4 =>
 bindV (still (aExtract v1 1) h4) fun v5 h6 =>
 bindV (still (aExtract v1 2) h6) fun v7 h8 =>
 Q (.ret (V.tup [v3,v5])) h8) fun v h=>Q (.panic v) h)):=by kernel_rfl
theorem C191 (Q:AEnd→AH→Prop) (a0:V) (h:AH) (c :
 ACalls Pg 111 [a0,(V.str [32])] h (aEnd (fun v1 h2 =>
 bindV (still (aExtract v1 0) h2) fun v3 h4 =>
 bindV (still (aExtract v1 1) h4) fun v5 h6 =>
 bindV (still (aExtract v1 2) h6) fun v7 h8 =>
 Q (.ret (V.tup [v3,v5])) h8) fun v h=>Q (.panic v) h)):ACalls Pg 191 [a0] h Q :=
 acalls_of_vc okP Tryz.func191 (show Tryz.f191.body=some B191 from by kernel_rfl) K191 (by rw [← S191 Q a0 h] at c;exact c)
noncomputable def B192:Code:=(Tryz.f192.body).getD .skip
def R192:List ResultVar:=[.tmp 0]
abbrev N192:Nat:=2
def K192:KT:=(.seq .leaf (.seq .leaf .leaf [0]) [])
theorem S192 (Q:AEnd→AH→Prop) (h:AH):vc Pg N192 B192 K192 (vcRet Pg R192 Q) (initEnv 0 []) h=(
 bindV (aBuildSlice Pg h 337 7 [(0,(V.str [97,115,107])),(1,(V.str [115,116,101,112])),(2,(V.str [114,111,117,110,100])),(3,(V.str [102,117,115,101])),(4,(V.str [102,97,105,108])),(5,(V.str [99,114,97,115,104])),(6,(V.str [111,112,101,110]))]) fun v1 h2 =>
 Q (.ret v1) h2):=by kernel_rfl
theorem C192 (Q:AEnd→AH→Prop) (h:AH) (c :
 bindV (aBuildSlice Pg h 337 7 [(0,(V.str [97,115,107])),(1,(V.str [115,116,101,112])),(2,(V.str [114,111,117,110,100])),(3,(V.str [102,117,115,101])),(4,(V.str [102,97,105,108])),(5,(V.str [99,114,97,115,104])),(6,(V.str [111,112,101,110]))]) fun v1 h2 =>
 Q (.ret v1) h2):ACalls Pg 192 [] h Q :=
 acalls_of_vc okP Tryz.func192 (show Tryz.f192.body=some B192 from by kernel_rfl) K192 (by rw [← S192 Q h] at c;exact c)
noncomputable def B193:Code:=(Tryz.f193.body).getD .skip
def R193:List ResultVar:=[.tmp 2,.tmp 3]
abbrev N193:Nat:=44
def K193:KT:=(.seq .leaf (.join (.join (.reg [[0,9,12],[0,14,18],[0,14,18,21],[0,14,22]]) (.two (.seq .leaf .leaf [2,3]) .leaf) [0,23]) (.seq .leaf (.join (.seq .leaf (.one (.loop (.seq .leaf (.join (.two .leaf .leaf) (.one (.seq .leaf (.join (.join (.reg [[4,6,25,31,33]]) (.two (.seq .leaf .leaf [2,3]) .leaf) [4,6,25,34]) .leaf [4,6,25]) [4,6,25])) [4,25,26]) [4,25,26,27]) [4,25])) [4,25]) (.seq .leaf .leaf [2,3]) [4]) [0,4]) [0]) [0])
def Jz42 (Q:AEnd→AH→Prop) (n:Nat) (x4 x6 x25:V) (h:AH):Prop:=vcAt Pg N193 B193 K193 [1,1,1,0,1,0,0,1,1,0,1,1] [n] (vcRet Pg R193 Q) [(4,x4),(6,x6),(25,x25)] h
def Jz41 (Q:AEnd→AH→Prop) (n:Nat) (x4 x6 x25 x34:V) (h:AH):Prop:=vcAt Pg N193 B193 K193 [1,1,1,0,1,0,0,1,1,0,1,0,1] [n] (vcRet Pg R193 Q) [(4,x4),(6,x6),(25,x25),(34,x34)] h
def Gz1d (Q:AEnd→AH→Prop) (n:Nat) (x4 x6 x25 x31 x33:V) (h:AH):Prop:=segAt Pg N193 B193 K193 [1,1,1,0,1,0,0,1,1,0,1,0,0] 2 1 [n] (vcRet Pg R193 Q) [(4,x4),(6,x6),(25,x25),(31,x31),(33,x33)] h
def Jz40 (Q:AEnd→AH→Prop) (n:Nat) (x4 x25 x26:V) (h:AH):Prop:=vcAt Pg N193 B193 K193 [1,1,1,0,1,0,0,1,1] [n] (vcRet Pg R193 Q) [(4,x4),(25,x25),(26,x26)] h
def Jz43 (Q:AEnd→AH→Prop) (x4:V) (h:AH):Prop:=vcAt Pg N193 B193 K193 [1,1,1,1] [] (vcRet Pg R193 Q) [(4,x4)] h
def Lz62 (Q:AEnd→AH→Prop) (n:Nat) (x4 x25:V) (h:AH):Prop:=loopAt Pg N193 B193 K193 [1,1,1,0,1,0] [] n (vcRet Pg R193 Q) [(4,x4),(25,x25)] h
def Jz3z (Q:AEnd→AH→Prop) (x0:V) (h:AH):Prop:=vcAt Pg N193 B193 K193 [1,1] [] (vcRet Pg R193 Q) [(0,x0)] h
def Jz3y (Q:AEnd→AH→Prop) (x0 x23:V) (h:AH):Prop:=vcAt Pg N193 B193 K193 [1,0,1] [] (vcRet Pg R193 Q) [(0,x0),(23,x23)] h
def Gz1c (Q:AEnd→AH→Prop) (x0 x14 x22:V) (h:AH):Prop:=segAt Pg N193 B193 K193 [1,0,0] 6 4 [] (vcRet Pg R193 Q) [(0,x0),(14,x14),(22,x22)] h
def Gz1b (Q:AEnd→AH→Prop) (x0 x14 x18 x21:V) (h:AH):Prop:=segAt Pg N193 B193 K193 [1,0,0] 5 3 [] (vcRet Pg R193 Q) [(0,x0),(14,x14),(18,x18),(21,x21)] h
def Gz1a (Q:AEnd→AH→Prop) (x0 x14 x18:V) (h:AH):Prop:=segAt Pg N193 B193 K193 [1,0,0] 4 2 [] (vcRet Pg R193 Q) [(0,x0),(14,x14),(18,x18)] h
def Gz19 (Q:AEnd→AH→Prop) (x0 x9 x12:V) (h:AH):Prop:=segAt Pg N193 B193 K193 [1,0,0] 2 1 [] (vcRet Pg R193 Q) [(0,x0),(9,x9),(12,x12)] h
theorem Jz42_eq (Q:AEnd→AH→Prop) (n:Nat) (x4 x6 x25:V) (h:AH):Jz42 Q n x4 x6 x25 h=(
 bindV (still (aBin Pg .mul 49 x4 (V.int .u64 10) true) h) fun v19 h20 =>
 bindV (still (aBin Pg .sub 21 x6 (V.int .i32 48) true) h20) fun v21 h22 =>
 bindV (still (aConv Pg h22 21 49 v21) h22) fun v23 h24 =>
 bindV (still (aBin Pg .add 49 v19 v23 false) h24) fun v25 h26 =>
 Meet (Lz62 Q n v25 x25 h26)):=by kernel_rfl
theorem Jz41_eq (Q:AEnd→AH→Prop) (n:Nat) (x4 x6 x25 x34:V) (h:AH):Jz41 Q n x4 x6 x25 x34 h=(
 vcIf x34 (
 Q (.ret (V.tup [(V.int .u64 0),(V.bool false)])) h) (
 Meet (Jz42 Q n x4 x6 x25 h))):=by kernel_rfl
theorem Gz1d_eq (Q:AEnd→AH→Prop) (n:Nat) (x4 x6 x25 x31 x33:V) (h:AH):Gz1d Q n x4 x6 x25 x31 x33 h=(
 bindV (aPick x31 (V.bool true) x33 h) fun v17 h18 =>
 Meet (Jz41 Q n x4 x6 x25 v17 h18)):=by kernel_rfl
theorem Jz40_eq (Q:AEnd→AH→Prop) (n:Nat) (x4 x25 x26:V) (h:AH):Jz40 Q n x4 x25 x26 h=(
 bindV (still (aExtract x26 2) h) fun v13 h14 =>
 bindV (still (aBin Pg .lss 21 v13 (V.int .i32 48) true) h14) fun v15 h16 =>
 vcG v15 false (
 bindV (still (aBin Pg .gtr 21 v13 (V.int .i32 57) true) h16) fun v27 h28 =>
 Meet (Gz1d Q n x4 v13 x25 v15 v27 h28)) (Meet (Gz1d Q n x4 v13 x25 v15 hole h16))):=by kernel_rfl
theorem Jz43_eq (Q:AEnd→AH→Prop) (x4:V) (h:AH):Jz43 Q x4 h=(
 bindV (still (aBin Pg .lss 49 x4 (V.int .u64 2147483648) true) h) fun v29 h30 =>
 Q (.ret (V.tup [x4,v29])) h30):=by kernel_rfl
theorem Lz62_eq (Q:AEnd→AH→Prop) (n:Nat) (x4 x25:V) (h:AH):Lz62 Q (n + 1) x4 x25 h=(
 vcNextS x25 h fun v9 h10 =>
 bindV (still (aExtract v9 0) h10) fun v11 h12 =>
 vcIf v11 (
 Meet (Jz40 Q n x4 x25 v9 h12)) (
 Meet (Jz43 Q x4 h12))):=by kernel_rfl
theorem Jz3z_eq (Q:AEnd→AH→Prop) (x0:V) (h:AH):Jz3z Q x0 h=(
 vcRange Pg 9 x0 h fun v7 h8 =>
 ∃ n,Meet (Lz62 Q n (V.int .u64 0) v7 h8)):=by kernel_rfl
theorem Jz3y_eq (Q:AEnd→AH→Prop) (x0 x23:V) (h:AH):Jz3y Q x0 x23 h=(
 vcIf x23 (
 Q (.ret (V.tup [(V.int .u64 0),(V.bool false)])) h) (
 Meet (Jz3z Q x0 h))):=by kernel_rfl
theorem Gz1c_eq (Q:AEnd→AH→Prop) (x0 x14 x22:V) (h:AH):Gz1c Q x0 x14 x22 h=(
 bindV (aPick x14 (V.bool true) x22 h) fun v5 h6 =>
 Meet (Jz3y Q x0 v5 h6)):=by kernel_rfl
theorem Gz1b_eq (Q:AEnd→AH→Prop) (x0 x14 x18 x21:V) (h:AH):Gz1b Q x0 x14 x18 x21 h=(
 vcG x14 false (
 bindV (aPick x18 x21 (V.bool false) h) fun v31 h32 =>
 Meet (Gz1c Q x0 x14 v31 h32)) (Meet (Gz1c Q x0 x14 hole h))):=by kernel_rfl
theorem Gz1a_eq (Q:AEnd→AH→Prop) (x0 x14 x18:V) (h:AH):Gz1a Q x0 x14 x18 h=(
 vcG x18 true (
 bindV (still (aIndex Pg 9 x0 (V.int .i64 0)) h) fun v33 h34 =>
 bindV (still (aBin Pg .eql 5 v33 (V.int .u8 48) true) h34) fun v35 h36 =>
 Meet (Gz1b Q x0 x14 x18 v35 h36)) (Meet (Gz1b Q x0 x14 x18 hole h))):=by kernel_rfl
theorem Gz19_eq (Q:AEnd→AH→Prop) (x0 x9 x12:V) (h:AH):Gz19 Q x0 x9 x12 h=(
 bindV (aPick x9 (V.bool true) x12 h) fun v3 h4 =>
 vcG v3 false (
 bindV (aBuiltin Pg h4 .len [9] [x0]) fun v37 h38 =>
 bindV (still (aBin Pg .gtr 3 v37 (V.int .i64 1) true) h38) fun v39 h40 =>
 Meet (Gz1a Q x0 v3 v39 h40)) (Meet (Gz1a Q x0 v3 hole h4))):=by kernel_rfl
theorem S193 (Q:AEnd→AH→Prop) (a0:V) (h:AH):vc Pg N193 B193 K193 (vcRet Pg R193 Q) (initEnv 0 [a0]) h=(
 bindV (still (aBin Pg .eql 9 a0 (V.str []) true) h) fun v1 h2 =>
 vcG v1 false (
 bindV (aBuiltin Pg h2 .len [9] [a0]) fun v41 h42 =>
 bindV (still (aBin Pg .gtr 3 v41 (V.int .i64 10) true) h42) fun v43 h44 =>
 Meet (Gz19 Q a0 v1 v43 h44)) (Meet (Gz19 Q a0 v1 hole h2))):=by kernel_rfl
theorem C193 (Q:AEnd→AH→Prop) (a0:V) (h:AH) (c :
 bindV (still (aBin Pg .eql 9 a0 (V.str []) true) h) fun v1 h2 =>
 vcG v1 false (
 bindV (aBuiltin Pg h2 .len [9] [a0]) fun v41 h42 =>
 bindV (still (aBin Pg .gtr 3 v41 (V.int .i64 10) true) h42) fun v43 h44 =>
 Meet (Gz19 Q a0 v1 v43 h44)) (Meet (Gz19 Q a0 v1 hole h2))):ACalls Pg 193 [a0] h Q :=
 acalls_of_vc okP Tryz.func193 (show Tryz.f193.body=some B193 from by kernel_rfl) K193 (by rw [← S193 Q a0 h] at c;exact c)
noncomputable def B194:Code:=(Tryz.f194.body).getD .skip
def R194:List ResultVar:=[.tmp 2,.tmp 3]
abbrev N194:Nat:=54
def K194:KT:=(.seq .leaf (.join (.seq .leaf (.two (.seq .leaf .leaf [2,3]) .leaf) [0,9]) (.join (.join (.reg [[0,12,16],[0,18,21]]) (.two (.seq .leaf .leaf [2,3]) .leaf) [0,22]) (.seq .leaf (.join (.seq .leaf (.one (.loop (.join (.seq .leaf (.two .leaf .leaf) [0,4,5,26]) (.join (.one (.seq .leaf (.join (.join (.reg [[0,4,5,6,7,40,42]]) (.two (.seq .leaf .leaf [2,3]) .leaf) [0,4,5,6,7,43]) .leaf [0,4,5,6,7]) [0,4,5,6,7])) .leaf [0,4,5]) [0,4,5]) [0,4,5])) [0,4,5]) (.seq .leaf .leaf [2,3]) [4]) [0,4]) [0]) [0]) [0])
def Jz4a (Q:AEnd→AH→Prop) (n:Nat) (x0 x4 x5:V) (h:AH):Prop:=vcAt Pg N194 B194 K194 [1,1,1,1,0,1,0,0,1,1] [n] (vcRet Pg R194 Q) [(0,x0),(4,x4),(5,x5)] h
def Jz49 (Q:AEnd→AH→Prop) (n:Nat) (x0 x4 x5 x6 x7:V) (h:AH):Prop:=vcAt Pg N194 B194 K194 [1,1,1,1,0,1,0,0,1,0,0,1,1] [n] (vcRet Pg R194 Q) [(0,x0),(4,x4),(5,x5),(6,x6),(7,x7)] h
def Jz48 (Q:AEnd→AH→Prop) (n:Nat) (x0 x4 x5 x6 x7 x43:V) (h:AH):Prop:=vcAt Pg N194 B194 K194 [1,1,1,1,0,1,0,0,1,0,0,1,0,1] [n] (vcRet Pg R194 Q) [(0,x0),(4,x4),(5,x5),(6,x6),(7,x7),(43,x43)] h
def Gz1g (Q:AEnd→AH→Prop) (n:Nat) (x0 x4 x5 x6 x7 x40 x42:V) (h:AH):Prop:=segAt Pg N194 B194 K194 [1,1,1,1,0,1,0,0,1,0,0,1,0,0] 2 1 [n] (vcRet Pg R194 Q) [(0,x0),(4,x4),(5,x5),(6,x6),(7,x7),(40,x40),(42,x42)] h
def Jz47 (Q:AEnd→AH→Prop) (n:Nat) (x0 x4 x5:V) (h:AH):Prop:=vcAt Pg N194 B194 K194 [1,1,1,1,0,1,0,0,1] [n] (vcRet Pg R194 Q) [(0,x0),(4,x4),(5,x5)] h
def Jz4b (Q:AEnd→AH→Prop) (x4:V) (h:AH):Prop:=vcAt Pg N194 B194 K194 [1,1,1,1,1] [] (vcRet Pg R194 Q) [(4,x4)] h
def Lz63 (Q:AEnd→AH→Prop) (n:Nat) (x0 x4 x5:V) (h:AH):Prop:=loopAt Pg N194 B194 K194 [1,1,1,1,0,1,0] [] n (vcRet Pg R194 Q) [(0,x0),(4,x4),(5,x5)] h
def Jz46 (Q:AEnd→AH→Prop) (x0:V) (h:AH):Prop:=vcAt Pg N194 B194 K194 [1,1,1] [] (vcRet Pg R194 Q) [(0,x0)] h
def Jz45 (Q:AEnd→AH→Prop) (x0 x22:V) (h:AH):Prop:=vcAt Pg N194 B194 K194 [1,1,0,1] [] (vcRet Pg R194 Q) [(0,x0),(22,x22)] h
def Gz1f (Q:AEnd→AH→Prop) (x0 x18 x21:V) (h:AH):Prop:=segAt Pg N194 B194 K194 [1,1,0,0] 4 2 [] (vcRet Pg R194 Q) [(0,x0),(18,x18),(21,x21)] h
def Gz1e (Q:AEnd→AH→Prop) (x0 x12 x16:V) (h:AH):Prop:=segAt Pg N194 B194 K194 [1,1,0,0] 2 1 [] (vcRet Pg R194 Q) [(0,x0),(12,x12),(16,x16)] h
def Jz44 (Q:AEnd→AH→Prop) (x0:V) (h:AH):Prop:=vcAt Pg N194 B194 K194 [1,1] [] (vcRet Pg R194 Q) [(0,x0)] h
theorem Jz4a_eq (Q:AEnd→AH→Prop) (n:Nat) (x0 x4 x5:V) (h:AH):Jz4a Q n x0 x4 x5 h=(
 bindV (still (aBin Pg .add 3 x5 (V.int .i64 2) true) h) fun v32 h33 =>
 Meet (Lz63 Q n x0 x4 v32 h33)):=by kernel_rfl
theorem Jz49_eq (Q:AEnd→AH→Prop) (n:Nat) (x0 x4 x5 x6 x7:V) (h:AH):Jz49 Q n x0 x4 x5 x6 x7 h=(
 bindV (still (aBin Pg .shl 3 x6 (V.int .u64 4) true) h) fun v22 h23 =>
 bindV (still (aBin Pg .or 3 v22 x7 false) h23) fun v24 h25 =>
 bindV (still (aConv Pg h25 3 5 v24) h25) fun v26 h27 =>
 bindV (aBuildSlice Pg h27 207 1 [(0,v26)]) fun v28 h29 =>
 bindV (aBuiltin Pg h29 .append [207,207] [x4,v28]) fun v30 h31 =>
 Meet (Jz4a Q n x0 v30 x5 h31)):=by kernel_rfl
theorem Jz48_eq (Q:AEnd→AH→Prop) (n:Nat) (x0 x4 x5 x6 x7 x43:V) (h:AH):Jz48 Q n x0 x4 x5 x6 x7 x43 h=(
 vcIf x43 (
 Q (.ret (V.tup [(V.str []),(V.bool false)])) h) (
 Meet (Jz49 Q n x0 x4 x5 x6 x7 h))):=by kernel_rfl
theorem Gz1g_eq (Q:AEnd→AH→Prop) (n:Nat) (x0 x4 x5 x6 x7 x40 x42:V) (h:AH):Gz1g Q n x0 x4 x5 x6 x7 x40 x42 h=(
 bindV (aPick x40 (V.bool true) x42 h) fun v20 h21 =>
 Meet (Jz48 Q n x0 x4 x5 x6 x7 v20 h21)):=by kernel_rfl
theorem Jz47_eq (Q:AEnd→AH→Prop) (n:Nat) (x0 x4 x5:V) (h:AH):Jz47 Q n x0 x4 x5 h=(
 bindO (fstV (still (aIndex Pg 9 x0 x5) h)) fun v13 =>
 ∃ v14,ACalls Pg 253 [(V.str [48,49,50,51,52,53,54,55,56,57,97,98,99,100,101,102]),v13] h (pureE v14 h)∧(
 bindO (fstV (still (aBin Pg .add 3 x5 (V.int .i64 1) true) h)) fun v15 =>
 bindO (fstV (still (aIndex Pg 9 x0 v15) h)) fun v16 =>
 ∃ v17,ACalls Pg 253 [(V.str [48,49,50,51,52,53,54,55,56,57,97,98,99,100,101,102]),v16] h (pureE v17 h)∧(
 bindV (still (aBin Pg .lss 3 v14 (V.int .i64 0) true) h) fun v18 h19 =>
 vcG v18 false (
 bindV (still (aBin Pg .lss 3 v17 (V.int .i64 0) true) h19) fun v34 h35 =>
 Meet (Gz1g Q n x0 x4 x5 v14 v17 v18 v34 h35)) (Meet (Gz1g Q n x0 x4 x5 v14 v17 v18 hole h19))))):=by kernel_rfl
theorem Jz4b_eq (Q:AEnd→AH→Prop) (x4:V) (h:AH):Jz4b Q x4 h=(
 bindV (still (aConv Pg h 207 9 x4) h) fun v36 h37 =>
 Q (.ret (V.tup [v36,(V.bool true)])) h37):=by kernel_rfl
theorem Lz63_eq (Q:AEnd→AH→Prop) (n:Nat) (x0 x4 x5:V) (h:AH):Lz63 Q (n + 1) x0 x4 x5 h=(
 bindV (aBuiltin Pg h .len [9] [x0]) fun v9 h10 =>
 bindV (still (aBin Pg .lss 3 x5 v9 false) h10) fun v11 h12 =>
 vcIf v11 (
 Meet (Jz47 Q n x0 x4 x5 h12)) (
 Meet (Jz4b Q x4 h12))):=by kernel_rfl
theorem Jz46_eq (Q:AEnd→AH→Prop) (x0:V) (h:AH):Jz46 Q x0 h=(
 ∃ n,Meet (Lz63 Q n x0 (V.slc none 0) (V.int .i64 0) h)):=by kernel_rfl
theorem Jz45_eq (Q:AEnd→AH→Prop) (x0 x22:V) (h:AH):Jz45 Q x0 x22 h=(
 vcIf x22 (
 Q (.ret (V.tup [(V.str []),(V.bool false)])) h) (
 Meet (Jz46 Q x0 h))):=by kernel_rfl
theorem Gz1f_eq (Q:AEnd→AH→Prop) (x0 x18 x21:V) (h:AH):Gz1f Q x0 x18 x21 h=(
 bindV (aPick x18 (V.bool true) x21 h) fun v7 h8 =>
 Meet (Jz45 Q x0 v7 h8)):=by kernel_rfl
theorem Gz1e_eq (Q:AEnd→AH→Prop) (x0 x12 x16:V) (h:AH):Gz1e Q x0 x12 x16 h=(
 bindV (aPick x12 (V.bool true) x16 h) fun v5 h6 =>
 vcG v5 false (
 bindV (aBuiltin Pg h6 .len [9] [x0]) fun v38 h39 =>
 bindV (still (aBin Pg .gtr 3 v38 (V.int .i64 128) true) h39) fun v40 h41 =>
 Meet (Gz1f Q x0 v5 v40 h41)) (Meet (Gz1f Q x0 v5 hole h6))):=by kernel_rfl
theorem Jz44_eq (Q:AEnd→AH→Prop) (x0:V) (h:AH):Jz44 Q x0 h=(
 bindV (still (aBin Pg .eql 9 x0 (V.str []) true) h) fun v3 h4 =>
 vcG v3 false (
 bindV (aBuiltin Pg h4 .len [9] [x0]) fun v42 h43 =>
 bindV (still (aBin Pg .rem 3 v42 (V.int .i64 2) true) h43) fun v44 h45 =>
 bindV (still (aBin Pg .neq 3 v44 (V.int .i64 0) true) h45) fun v46 h47 =>
 Meet (Gz1e Q x0 v3 v46 h47)) (Meet (Gz1e Q x0 v3 hole h4))):=by kernel_rfl
theorem S194 (Q:AEnd→AH→Prop) (a0:V) (h:AH):vc Pg N194 B194 K194 (vcRet Pg R194 Q) (initEnv 0 [a0]) h=(
 bindV (still (aBin Pg .eql 9 a0 (V.str [45]) true) h) fun v1 h2 =>
 vcIf v1 (
 Q (.ret (V.tup [(V.str []),(V.bool true)])) h2) (
 Meet (Jz44 Q a0 h2))):=by kernel_rfl
theorem C194 (Q:AEnd→AH→Prop) (a0:V) (h:AH) (c :
 bindV (still (aBin Pg .eql 9 a0 (V.str [45]) true) h) fun v1 h2 =>
 vcIf v1 (
 Q (.ret (V.tup [(V.str []),(V.bool true)])) h2) (
 Meet (Jz44 Q a0 h2))):ACalls Pg 194 [a0] h Q :=
 acalls_of_vc okP Tryz.func194 (show Tryz.f194.body=some B194 from by kernel_rfl) K194 (by rw [← S194 Q a0 h] at c;exact c)
end Go.Proofs.YtcglbpjpbjaecaaGreat.Sh
namespace Go.Proofs.YtcglbpjpbjaecaaGreat.Sh
open Go Go.Ab Go.RowKit
open Go.Proofs.YtcglbpjpbjaecaaGreat.Ru (Pg okP)
set_option maxRecDepth 100000
noncomputable def B111:Code:=(Tryz.f111.body).getD .skip
def R111:List ResultVar:=[.tmp 4,.tmp 5,.tmp 6]
abbrev N111:Nat:=13
def K111:KT:=(.seq .leaf (.seq .leaf .leaf [4,5,6]) [0,1])
theorem S111 (Q:AEnd→AH→Prop) (a0 a1:V) (h:AH):vc Pg N111 B111 K111 (vcRet Pg R111 Q) (initEnv 0 [a0,a1]) h=(
 ACalls Pg 190 [a0,a1] h (aEnd (fun v1 h2 =>
 bindV (still (aExtract v1 0) h2) fun v3 h4 =>
 bindV (still (aExtract v1 1) h4) fun v5 h6 =>
 bindV (still (aExtract v1 2) h6) fun v7 h8 =>
 Q (.ret (V.tup [v3,v5,v7])) h8) fun v h=>Q (.panic v) h)):=by kernel_rfl
theorem C111 (Q:AEnd→AH→Prop) (a0 a1:V) (h:AH) (c :
 ACalls Pg 190 [a0,a1] h (aEnd (fun v1 h2 =>
 bindV (still (aExtract v1 0) h2) fun v3 h4 =>
 bindV (still (aExtract v1 1) h4) fun v5 h6 =>
 bindV (still (aExtract v1 2) h6) fun v7 h8 =>
 Q (.ret (V.tup [v3,v5,v7])) h8) fun v h=>Q (.panic v) h)):ACalls Pg 111 [a0,a1] h Q :=
 acalls_of_vc okP Tryz.func111 (show Tryz.f111.body=some B111 from by kernel_rfl) K111 (by rw [← S111 Q a0 a1 h] at c;exact c)
noncomputable def B190:Code:=(Tryz.f190.body).getD .skip
def R190:List ResultVar:=[.tmp 4,.tmp 5,.tmp 6]
abbrev N190:Nat:=23
def K190:KT:=(.seq .leaf (.join (.seq .leaf (.seq .leaf (.two (.seq .leaf .leaf [4,5,6]) .leaf) [0,1,7,12]) [0,1,7]) (.seq .leaf .leaf [4,5,6]) [0]) [0,1])
def Jz3x (Q:AEnd→AH→Prop) (x0:V) (h:AH):Prop:=vcAt Pg N190 B190 K190 [1,1] [] (vcRet Pg R190 Q) [(0,x0)] h
theorem Jz3x_eq (Q:AEnd→AH→Prop) (x0:V) (h:AH):Jz3x Q x0 h=(
 Q (.ret (V.tup [x0,(V.str []),(V.bool false)])) h):=by kernel_rfl
theorem S190 (Q:AEnd→AH→Prop) (a0 a1:V) (h:AH):vc Pg N190 B190 K190 (vcRet Pg R190 Q) (initEnv 0 [a0,a1]) h=(
 ACalls Pg 252 [a0,a1] h (aEnd (fun v1 h2 =>
 bindV (still (aBin Pg .geq 3 v1 (V.int .i64 0) true) h2) fun v3 h4 =>
 vcIf v3 (
 bindO (fstV (still (aSlice Pg h4 9 a0 none (some v1)) h4)) fun v5 =>
 bindO (fstV (aBuiltin Pg h4 .len [9] [a1])) fun v6 =>
 bindO (fstV (still (aBin Pg .add 3 v1 v6 false) h4)) fun v7 =>
 bindO (fstV (still (aSlice Pg h4 9 a0 (some v7) none) h4)) fun v8 =>
 Q (.ret (V.tup [v5,v8,(V.bool true)])) h4) (
 Meet (Jz3x Q a0 h4))) fun v h=>Q (.panic v) h)):=by kernel_rfl
theorem C190 (Q:AEnd→AH→Prop) (a0 a1:V) (h:AH) (c :
 ACalls Pg 252 [a0,a1] h (aEnd (fun v1 h2 =>
 bindV (still (aBin Pg .geq 3 v1 (V.int .i64 0) true) h2) fun v3 h4 =>
 vcIf v3 (
 bindO (fstV (still (aSlice Pg h4 9 a0 none (some v1)) h4)) fun v5 =>
 bindO (fstV (aBuiltin Pg h4 .len [9] [a1])) fun v6 =>
 bindO (fstV (still (aBin Pg .add 3 v1 v6 false) h4)) fun v7 =>
 bindO (fstV (still (aSlice Pg h4 9 a0 (some v7) none) h4)) fun v8 =>
 Q (.ret (V.tup [v5,v8,(V.bool true)])) h4) (
 Meet (Jz3x Q a0 h4))) fun v h=>Q (.panic v) h)):ACalls Pg 190 [a0,a1] h Q :=
 acalls_of_vc okP Tryz.func190 (show Tryz.f190.body=some B190 from by kernel_rfl) K190 (by rw [← S190 Q a0 a1 h] at c;exact c)
noncomputable def B252:Code:=(Tryz.f252.body).getD .skip
def R252:List ResultVar:=[.tmp 4]
abbrev N252:Nat:=143
def K252:KT:=(.seq .leaf (.seq .leaf (.join (.one (.join (.reg [[0,1,5,19,22]]) (.two (.seq .leaf .leaf [4]) (.seq .leaf (.two (.seq .leaf .leaf [4]) (.seq .leaf (.two (.seq .leaf .leaf [4]) (.join (.reg [[0,1,5,40,43]]) (.two (.seq .leaf .leaf [4]) .leaf) [0,1,5,36])) [0,1,5,31])) [0,1,5,24])) [0,1,5,16])) (.seq .leaf (.seq .leaf (.seq .leaf (.seq .leaf (.seq .leaf (.join (.one (.loop (.join (.seq .leaf (.two .leaf .leaf) [0,1,5,6,7,8,9,10,59]) (.one (.join (.seq .leaf (.two (.seq .leaf (.join (.seq .leaf (.two (.seq .leaf .leaf [4]) .leaf) [0,1,5,6,7,8,9,10,11,73]) .leaf [0,1,5,6,7,8,9,10,11]) [0,1,5,6,7,8,9,10,11]) .leaf) [0,1,5,6,7,8,9,10,64]) (.join (.join (.reg [[0,1,5,6,7,8,9,10,84,92]]) (.two (.seq .leaf .leaf [4]) .leaf) [0,1,5,6,7,8,9,10,93]) (.seq .leaf (.seq .leaf (.join (.reg [[0,1,5,6,7,8,9,10,102,106]]) (.two (.seq .leaf (.join (.seq .leaf (.two (.seq .leaf .leaf [4]) .leaf) [8,12,114]) (.seq .leaf .leaf [4]) []) [8,12]) (.join (.reg [[0,1,5,6,7,8,9,10,121,126],[0,1,5,6,7,8,9,10,128,131]]) (.two (.seq .leaf (.join (.seq .leaf (.two (.seq .leaf .leaf [4]) .leaf) [8,13,139]) (.seq .leaf .leaf [4]) [8,13]) [8,13]) .leaf) [0,1,5,6,7,8,9,10,132])) [0,1,5,6,7,8,9,10,107]) [0,1,5,6,7,8,9,10]) [0,1,5,6,7,8,9,10]) [0,1,5,6,7,8,9,10]) [0,1,5,6,7,8,9,10])) [0,1,5,6,7,8,9,10]) [0,1,5,6,7,8,9,10])) (.seq .leaf .leaf [4]) []) [0,1,5,6,7,8,9,10]) [0,1,5,6,7,8,9]) [0,1,5,6,7,8]) [0,1,5,6,7]) [0,1,5,6]) [0,1,5]) [0,1,5]) [0,1])
def Gz1m (Q:AEnd→AH→Prop) (x0 x1 x5 x40 x43:V) (h:AH):Prop:=segAt Pg N252 B252 K252 [1,1,0,0,1,1,1,1,1,1,0] 2 1 [] (vcRet Pg R252 Q) [(0,x0),(1,x1),(5,x5),(40,x40),(43,x43)] h
def Jz4u (Q:AEnd→AH→Prop) (x0 x1 x5 x16:V) (h:AH):Prop:=vcAt Pg N252 B252 K252 [1,1,0,0,1] [] (vcRet Pg R252 Q) [(0,x0),(1,x1),(5,x5),(16,x16)] h
def Gz1l (Q:AEnd→AH→Prop) (x0 x1 x5 x19 x22:V) (h:AH):Prop:=segAt Pg N252 B252 K252 [1,1,0,0,0] 2 1 [] (vcRet Pg R252 Q) [(0,x0),(1,x1),(5,x5),(19,x19),(22,x22)] h
theorem Jz4u_eq (Q:AEnd→AH→Prop) (x0 x1 x5 x16:V) (h:AH):Jz4u Q x0 x1 x5 x16 h=(
 vcIf x16 (
 Q (.ret (V.int .i64 0)) h) (
 bindV (still (aBin Pg .eql 3 x5 (V.int .i64 1) true) h) fun v7 h8 =>
 vcIf v7 (
 bindV (still (aIndex Pg 9 x1 (V.int .i64 0)) h8) fun v9 h10 =>
 ACalls Pg 289 [x0,v9] h10 (aEnd (fun v11 h12 =>
 Q (.ret v11) h12) fun v h=>Q (.panic v) h)) (
 bindV (aBuiltin Pg h8 .len [9] [x0]) fun v13 h14 =>
 bindV (still (aBin Pg .geq 3 x5 v13 false) h14) fun v15 h16 =>
 vcIf v15 (
 Q (.ret (V.int .i64 (-1))) h16) (
 bindV (aLoadV Pg h16 3 V.und) fun v17 h18 =>
 bindV (still (aBin Pg .leq 3 x5 v17 false) h18) fun v19 h20 =>
 vcG v19 true (
 bindV (aBuiltin Pg h20 .len [9] [x0]) fun v113 h114 =>
 bindV (still (aBin Pg .leq 3 v113 (V.int .i64 64) true) h114) fun v115 h116 =>
 Meet (Gz1m Q x0 x1 x5 v19 v115 h116)) (Meet (Gz1m Q x0 x1 x5 v19 hole h20)))))):=by kernel_rfl
theorem Gz1l_eq (Q:AEnd→AH→Prop) (x0 x1 x5 x19 x22:V) (h:AH):Gz1l Q x0 x1 x5 x19 x22 h=(
 bindV (aPick x19 (V.bool true) x22 h) fun v5 h6 =>
 Meet (Jz4u Q x0 x1 x5 v5 h6)):=by kernel_rfl
theorem S252 (Q:AEnd→AH→Prop) (a0 a1:V) (h:AH):vc Pg N252 B252 K252 (vcRet Pg R252 Q) (initEnv 0 [a0,a1]) h=(
 bindV (aBuiltin Pg h .len [9] [a1]) fun v1 h2 =>
 bindV (still (aBin Pg .eql 3 v1 (V.int .i64 0) true) h2) fun v3 h4 =>
 vcG v3 false (
 bindV (still (aBin Pg .eql 9 a1 a0 false) h4) fun v117 h118 =>
 Meet (Gz1l Q a0 a1 v1 v3 v117 h118)) (Meet (Gz1l Q a0 a1 v1 v3 hole h4))):=by kernel_rfl
theorem C252 (Q:AEnd→AH→Prop) (a0 a1:V) (h:AH) (c :
 bindV (aBuiltin Pg h .len [9] [a1]) fun v1 h2 =>
 bindV (still (aBin Pg .eql 3 v1 (V.int .i64 0) true) h2) fun v3 h4 =>
 vcG v3 false (
 bindV (still (aBin Pg .eql 9 a1 a0 false) h4) fun v117 h118 =>
 Meet (Gz1l Q a0 a1 v1 v3 v117 h118)) (Meet (Gz1l Q a0 a1 v1 v3 hole h4))):ACalls Pg 252 [a0,a1] h Q :=
 acalls_of_vc okP Tryz.func252 (show Tryz.f252.body=some B252 from by kernel_rfl) K252 (by rw [← S252 Q a0 a1 h] at c;exact c)
noncomputable def B253:Code:=(Tryz.f253.body).getD .skip
def R253:List ResultVar:=[.tmp 4]
abbrev N253:Nat:=8
def K253:KT:=(.seq .leaf (.seq .leaf .leaf [4]) [0,1])
theorem S253 (Q:AEnd→AH→Prop) (a0 a1:V) (h:AH):vc Pg N253 B253 K253 (vcRet Pg R253 Q) (initEnv 0 [a0,a1]) h=(
 ACalls Pg 289 [a0,a1] h (aEnd (fun v1 h2 =>
 Q (.ret v1) h2) fun v h=>Q (.panic v) h)):=by kernel_rfl
theorem C253 (Q:AEnd→AH→Prop) (a0 a1:V) (h:AH) (c :
 ACalls Pg 289 [a0,a1] h (aEnd (fun v1 h2 =>
 Q (.ret v1) h2) fun v h=>Q (.panic v) h)):ACalls Pg 253 [a0,a1] h Q :=
 acalls_of_vc okP Tryz.func253 (show Tryz.f253.body=some B253 from by kernel_rfl) K253 (by rw [← S253 Q a0 a1 h] at c;exact c)
end Go.Proofs.YtcglbpjpbjaecaaGreat.Sh
namespace Go.Proofs.YtcglbpjpbjaecaaGreat.Sj
open Go Go.Ab Go.RowKit Go.Proofs
open Go.Proofs.YtcglbpjpbjaecaaGreat.Ru (Pg okP)
set_option maxRecDepth 100000
def ixRen:Go.Shelf.Ren:=⟨fun | 217=>289 | 266=>301 | n=>n,fun | 9=>9 | 5=>5 | 3=>3 | n=>n,fun n=>n⟩
theorem ixLay:Lays.n217 Tryz.prog ixRen:={
 mixed:=by kernel_rfl,
 f217:=Tryz.func289.trans (congrArg some (by kernel_rfl)),
 f266:=Tryz.func301.trans (congrArg some (by kernel_rfl)),
 t3:=Tryz.underlying3,
 a3:=Tryz.isAgg3,
 z3:=Tryz.sizeOf3,
 v3:=Tryz.zeroValue3,
 t5:=Tryz.underlying5,
 a5:=Tryz.isAgg5,
 z5:=Tryz.sizeOf5,
 v5:=Tryz.zeroValue5,
 t9:=Tryz.underlying9,
 a9:=Tryz.isAgg9,
 z9:=Tryz.sizeOf9,
 v9:=Tryz.zeroValue9 }
theorem idxP (s:List UInt8) (c:Int) (h:AH):ACalls Pg 289 [.str s,.int .u8 c] h (pureE (.int .i64 (Go.Lib.indexByte s c.toNat.toUInt8)) h):=by
 intro B ι W vs F r
 obtain ⟨v0,vs0,h0,r0,rfl⟩:=relL_cons_iff.1 r
 obtain ⟨v1,vs1,h1,r1,rfl⟩:=relL_cons_iff.1 r0
 simp only [relL] at r1
 subst r1
 obtain rfl:=rel_str h0
 obtain rfl:=rel_int h1
 refine Calls.mono (Any.stringslite_IndexByte ixLay ⟨s.toArray⟩ c W) ?_
 rintro e w' ⟨rfl,rfl⟩
 exact ⟨ι,h,.ret _,Names.le_refl _,F,mk_int _ _,rfl,rfl⟩
def cutAt (c:UInt8):List UInt8→List UInt8 × List UInt8 × Bool
 | []=>([],[],false)
 | b :: s=>if b=c then ([],s,true) else (b :: (cutAt c s).1,(cutAt c s).2.1,(cutAt c s).2.2)
theorem cut_idx (c:UInt8):∀ s:List UInt8,(Go.Lib.indexByte s c=-1∧cutAt c s=(s,[],false))∨∃ i:Nat,Go.Lib.indexByte s c=i∧i < s.length∧cutAt c s=(s.take i,s.drop (i + 1),true)
 | []=>.inl ⟨rfl,rfl⟩
 | b :: s=>by
   by_cases hb:b=c
   · subst hb
     exact .inr ⟨0,by simp [Go.Lib.indexByte],by simp,by simp [cutAt]⟩
   · rcases cut_idx c s with ⟨h1,h2⟩ | ⟨i,h1,h2,h3⟩
     · exact .inl ⟨by simp [Go.Lib.indexByte,hb,h1],by simp [cutAt,hb,h2]⟩
     · have hne:¬ ((i:Int)=-1):=by omega
       exact .inr ⟨i + 1,by simp [Go.Lib.indexByte,hb,h1,hne],by simp;omega,by simp [cutAt,hb,h3]⟩
theorem byteN (c:UInt8):((c.toNat:Nat):Int).toNat.toUInt8=c:=by simp
section
open Go.Proofs.YtcglbpjpbjaecaaGreat.Sh
theorem idx1 (s:List UInt8) (c:UInt8) (h:AH):ACalls Pg 252 [.str s,.str [c]] h (pureE (.int .i64 (Go.Lib.indexByte s c)) h):=by
 refine C252 _ _ _ _ ?_
 refine bindV_mk (len_str (by kernel_rfl)) ?_
 refine bindS_mk (b_eql_f (by simp)) ?_
 refine g_ff ?_
 refine bindS_mk (t_eql) ?_
 refine Meet.of (cast_p (Gz1l_eq _ _ _ _ _ _ _) ?_)
 refine bindV_mk p_f ?_
 refine Meet.of (cast_p (Jz4u_eq _ _ _ _ _ _) ?_)
 refine i_split (fun cc=>?_) (fun cc=>?_)
 · replace cc:=eq_of_beq cc
   subst cc
   exact ⟨by simp [Go.Lib.indexByte],rfl⟩
 · replace cc:=ne_of_beq_false cc
   refine bindS_mk (b_eql_t (by simp)) ?_
   refine i_t ?_
   refine bindS_mk (ixS (b:=c) (by kernel_rfl) (by omega) rfl) ?_
   refine callS (idxP s c.toNat _) ?_
   exact ⟨by simp,rfl⟩
theorem cut190 (s:List UInt8) (c:UInt8) (hs:s.length≤4611686018427387904) (h:AH):ACalls Pg 190 [.str s,.str [c]] h (pureE (.tup [.str (cutAt c s).1,.str (cutAt c s).2.1,.bool (cutAt c s).2.2]) h):=by
 rcases cut_idx c s with ⟨hi,hc⟩ | ⟨i,hi,hl,hc⟩
 · rw [hc]
   refine C190 _ _ _ _ (callS (hi▸idx1 s c h) ?_)
   refine bindS_mk (b_geq_f (by omega)) (i_f (Meet.of ?_))
   rw [Jz3x_eq]
   exact ⟨rfl,rfl⟩
 · rw [hc]
   refine C190 _ _ _ _ (callS (hi▸idx1 s c h) ?_)
   refine bindS_mk (b_geq_t (by omega)) (i_t ?_)
   refine bindSO_mk (sl_str (by kernel_rfl) rfl (bnd_i (by omega)) (by omega) (by omega)) ?_
   refine bindVO_mk (len_str (by kernel_rfl)) ?_
   refine bindSO_mk (w_add (wrap_i64 (by simp only [List.length_cons,List.length_nil];omega) (by simp only [List.length_cons,List.length_nil];omega))) ?_
   refine bindSO_mk (sl_str (by kernel_rfl) (bnd_i (by omega)) rfl (by simp only [List.length_cons,List.length_nil];omega) (by omega)) ?_
   refine ⟨?_,rfl⟩
   have e1:((i:Int) + (([c].length:Nat):Int)).toNat=i + 1:=by simp
   rw [e1]
   simp only [Int.toNat_natCast,List.drop_zero,Nat.sub_zero]
   rw [List.take_of_length_le (l:=s.drop (i + 1)) (by simp)]
theorem cutP (s:List UInt8) (c:UInt8) (hs:s.length≤4611686018427387904) (h:AH):ACalls Pg 111 [.str s,.str [c]] h (pureE (.tup [.str (cutAt c s).1,.str (cutAt c s).2.1,.bool (cutAt c s).2.2]) h):=by
 refine C111 _ _ _ _ (callS (cut190 s c hs h) ?_)
 refine bindS_mk (show aExtract _ _=some _ from rfl) ?_
 refine bindS_mk (show aExtract _ _=some _ from rfl) ?_
 refine bindS_mk (show aExtract _ _=some _ from rfl) ?_
 exact ⟨rfl,rfl⟩
theorem idxB (s:List UInt8) (c:UInt8) (h:AH):ACalls Pg 253 [.str s,.int .u8 c.toNat] h (pureE (.int .i64 (Go.Lib.indexByte s c)) h):=by
 have:=idxP s c.toNat h
 rw [byteN] at this
 exact C253 _ _ _ _ (callS this ⟨rfl,rfl⟩)
end
end Go.Proofs.YtcglbpjpbjaecaaGreat.Sj
namespace Go.Proofs.YtcglbpjpbjaecaaGreat.Sh
open Go Go.Ab Go.RowKit
open Go.Proofs.YtcglbpjpbjaecaaGreat.Ru (Pg okP)
open Go.Proofs.YtcglbpjpbjaecaaGreat.Sj (cutAt cutP cut_idx idxB)
set_option maxRecDepth 10000
theorem wr_i32 {x:Int} (h1:-2147483648≤x) (h2:x < 2147483648):IntKind.i32.wrap x=x:=by
 have e:∀ x:Int,IntKind.i32.wrap x=(if (true && decide (x % 4294967296 ≥ 2147483648))=true then x % 4294967296 - 4294967296 else x % 4294967296):=fun _=>rfl
 rw [e,Bool.true_and]
 by_cases h:x % 4294967296 ≥ 2147483648
 · rw [if_pos (by rw [decide_eq_true_eq];exact h)];omega
 · rw [if_neg (by rw [decide_eq_true_eq];exact h)];omega
theorem wordP (s:List UInt8) (hs:s.length≤4611686018427387904) (h:AH):ACalls Pg 191 [.str s] h (pureE (.tup [.str (cutAt 32 s).1,.str (cutAt 32 s).2.1]) h):=by
 refine C191 _ _ _ (callS (cutP s 32 hs h) ?_)
 refine bindS_mk (show aExtract _ _=some _ from rfl) ?_
 refine bindS_mk (show aExtract _ _=some _ from rfl) ?_
 refine bindS_mk (show aExtract _ _=some _ from rfl) ?_
 exact ⟨rfl,rfl⟩
theorem eventsP (h:AH):ACalls Pg 192 [] h fun e h'=>e=.ret (.slc (some (⟨h.next,.row 9,[]⟩,0)) 7)∧New h h' (.cells true (.row 9) (.agg (kindNames.map .str))):=by
 refine C192 _ _ ?_
 refine bindE (bs_at (e:=9) (z:=.str []) (l:=kindNames.map .str) (by kernel_rfl) (by kernel_rfl) (by kernel_rfl)) fun h1 u1=>?_
 exact ⟨rfl,u1⟩
theorem nextS_mk {h:AH} {n:Nat} {ty:BTy} {s:List UInt8} {pos:Nat} {b:UInt8} {K:V→AH→Prop} (hm:h.m n=some (.sit s pos)) (hb:s[pos]?=some b)
   (k:∀ r w:Nat,(b.toNat < 128→r=b.toNat∧w=1)→(128≤b.toNat→128≤r)→r≤2147483647→K (.tup [.bool true,.int .i64 pos,.int .i32 r]) (h.put n (.sit s (pos + w)))):vcNextS (.ptr (some ⟨n,ty,[]⟩)) h K:=by
 obtain ⟨hp,hx⟩:=List.getElem?_eq_some_iff.1 hb
 have hsz:pos < (⟨s.toArray⟩:ByteArray).size:=by simpa [ByteArray.size] using hp
 have hg:(⟨s.toArray⟩:ByteArray)[pos]'hsz=b:=by
   show (s.toArray)[pos]'_=b
   simpa using hx
 simp only [vcNextS,hm]
 refine ⟨trivial,fun _=>?_,fun h=>by omega⟩
 refine k _ _ (fun h1=>?_) (fun h1=>?_) (Go.decode_le _ _)
 · have:=Go.Ab.decode_ascii (s:=s) (pos:=pos) hb h1
   rw [this];exact ⟨rfl,rfl⟩
 · exact (Go.decode_high _ _ hsz (by rw [hg];exact h1)).1
theorem endS_mk {h:AH} {n:Nat} {ty:BTy} {s:List UInt8} {pos:Nat} {K:V→AH→Prop} (hm:h.m n=some (.sit s pos)) (hp:s.length≤pos) (k:K (.tup [.bool false]) h):vcNextS (.ptr (some ⟨n,ty,[]⟩)) h K:=by
 simp only [vcNextS,hm]
 exact ⟨trivial,fun h=>by omega,fun _=>k⟩
def rdL:Nat→List UInt8→Nat × Bool
 | n,[]=>(n,decide (n < 2147483648))
 | n,c :: s=>if c.toNat < 48∨57 < c.toNat then (0,false) else rdL (n * 10 + (c.toNat - 48)) s
def readT (s:List UInt8):Nat × Bool:=if s.length=0∨10 < s.length∨(1 < s.length∧s.head?=some 48) then (0,false) else rdL 0 s
def rdV (x:Nat × Bool):V:=.tup [.int .u64 x.1,.bool x.2]
section
variable {q:AEnd→Prop}
theorem drop_at {s:List UInt8} {i:Nat} {b:UInt8} (h:s[i]?=some b):s.drop i=b :: s.drop (i + 1):=by
 obtain ⟨h1,h2⟩:=List.getElem?_eq_some_iff.1 h
 rw [List.drop_eq_getElem_cons h1,h2]
theorem loop193 (s:List UInt8) (hs:s.length≤10):∀ (k pos n:Nat) (h:AH) (m a:Nat),s.length - pos=k→k < m→n < 10 ^ pos→pos≤s.length→h.m a=some (.sit s pos)→q (.ret (rdV (rdL n (s.drop pos))))→Lz62 (fun e _=>q e) m (.int .u64 n) (itV a) h:=by
 intro k
 induction k with
 | zero =>
   intro pos n h m a hk hm hn hp hit c
   obtain ⟨m,rfl⟩:∃ j,m=j + 1:=⟨m - 1,by omega⟩
   rw [Lz62_eq]
   refine endS_mk hit (by omega) ?_
   refine bindS_mk (show aExtract _ _=some _ from rfl) (i_f ?_)
   refine Meet.of ?_
   rw [Jz43_eq]
   refine bindS_mk (b_lss) ?_
   rw [List.drop_of_length_le (by omega),rdL] at c;have e:decide ((n:Int) < 2147483648)=decide (n < 2147483648):=by by_cases h:n < 2147483648 <;> simp [h] <;> omega
   rw [e];exact c
 | succ k ih =>
   intro pos n h m a hk hm hn hp hit c
   obtain ⟨m,rfl⟩:∃ j,m=j + 1:=⟨m - 1,by omega⟩
   obtain ⟨b,hb⟩:∃ b,s[pos]?=some b:=⟨s[pos]'(by omega),List.getElem?_eq_getElem (by omega)⟩
   have hn9:n < 1000000000:=Nat.lt_of_lt_of_le hn (Nat.pow_le_pow_right (show 10 > 0 by omega) (show pos≤9 by omega))
   have ih:=fun pos n h m a h1 h2 h3 h4 h5 c=>ih pos n h m a h1 h2 h3 h4 h5 c
   rw [Lz62_eq]
   refine nextS_mk hit hb fun r w hr1 hr2 hr3=>?_
   refine bindS_mk (show aExtract _ _=some _ from rfl) (i_t ?_)
   refine Meet.of ?_
   rw [Jz40_eq]
   refine bindS_mk (show aExtract _ _=some _ from rfl) ?_
   refine bindS_mk (b_lss) ?_
   refine g_split_f (fun c1=>?_) (fun c1=>?_)
   · try rw [c1]
     replace c1:=of_decide_eq_false c1
     refine bindS_mk (b_gtr) ?_
     refine Meet.of (cast_p (Gz1d_eq _ _ _ _ _ _ _ _) ?_)
     refine bindV_mk p_f ?_
     refine Meet.of (cast_p (Jz41_eq _ _ _ _ _ _ _) ?_)
     refine i_split (fun c2=>?_) (fun c2=>?_)
     · try rw [c2]
       replace c2:=of_decide_eq_true c2
       have hd:s.drop pos=b :: s.drop (pos + 1):=drop_at hb
       rw [hd,rdL,if_pos (by omega)] at c
       exact c
     · try rw [c2]
       replace c2:=of_decide_eq_false c2
       refine Meet.of (cast_p (Jz42_eq _ _ _ _ _ _) ?_)
       first | refine bindS_mk (w_mul (by first | exact wrap_i64 (by omega) (by omega) | exact wr_u8 (by omega) (by omega) | exact wr_u16 (by omega) (by omega) | exact wr_u32 (by omega) (by omega) | exact wr_u64 (by omega) (by omega))) ?_ | refine bindS_mk (b_mul) ?_
       refine bindS_mk (w_sub (wr_i32 (by omega) (by omega))) ?_
       refine bindS_mk (cv_wr (d:=49) (k:=.u64) (by kernel_rfl) (wr_u64 (by omega) (by omega))) ?_
       first | refine bindS_mk (w_add (by first | exact wrap_i64 (by omega) (by omega) | exact wr_u8 (by omega) (by omega) | exact wr_u16 (by omega) (by omega) | exact wr_u32 (by omega) (by omega) | exact wr_u64 (by omega) (by omega))) ?_ | refine bindS_mk (b_add) ?_
       have hlt:b.toNat < 128:=by rcases Nat.lt_or_ge b.toNat 128 with h1 | h1;exact h1;exact absurd (hr2 h1) (by omega)
       obtain ⟨e1,e2⟩:=hr1 hlt
       subst e1;subst e2
       have hd:s.drop pos=b :: s.drop (pos + 1):=drop_at hb
       rw [hd,rdL,if_neg (by omega)] at c
       refine Meet.of ((congrArg (fun x:Int=>Lz62 (fun e _=>q e) m (.int .u64 x) (itV a) _) (show (n:Int) * 10 + ((b.toNat:Int) - 48)=((n * 10 + (b.toNat - 48):Nat):Int) by omega)).mpr (ih (pos + 1) _ _ m a (by omega) (by omega) ?_ (by omega) (by rw [put_m,if_pos rfl]) c))
       rw [Nat.pow_succ];omega
   · try rw [c1]
     replace c1:=of_decide_eq_true c1
     refine Meet.of (cast_p (Gz1d_eq _ _ _ _ _ _ _ _) ?_)
     refine bindV_mk p_t ?_
     refine Meet.of (cast_p (Jz41_eq _ _ _ _ _ _ _) ?_)
     refine i_t ?_
     have hd:s.drop pos=b :: s.drop (pos + 1):=drop_at hb
     rw [hd,rdL,if_pos (by omega)] at c
     exact c
end
theorem readP (s:List UInt8) (h:AH):ACalls Pg 193 [.str s] h (pureE (rdV (readT s)) h):=by
 refine pure_lift (by rfl) rfl ?_ h
 cases s with
 | nil =>
   refine C193 _ _ _ ?_
   refine bindS_mk t_eql ?_
   refine g_tf ?_
   refine Meet.of (cast_p (Gz19_eq _ _ _ _ _) ?_)
   refine bindV_mk p_t ?_
   refine g_tf ?_
   refine Meet.of (cast_p (Gz1a_eq _ _ _ _ _) ?_)
   refine g_hole ?_
   refine Meet.of (cast_p (Gz1b_eq _ _ _ _ _ _) ?_)
   refine g_tf ?_
   refine Meet.of (cast_p (Gz1c_eq _ _ _ _ _) ?_)
   refine bindV_mk p_t ?_
   refine Meet.of (cast_p (Jz3y_eq _ _ _ _) ?_)
   refine i_t ?_
   rfl
 | cons b0 s0 =>
   obtain ⟨s,hs⟩:∃ s,s=b0 :: s0:=⟨_,rfl⟩
   rw [← hs]
   have hb0:s[0]?=some b0:=by rw [hs];rfl
   have hd0:s.head?=some b0:=by rw [hs];rfl
   have hl0:1≤s.length:=by rw [hs];simp
   have he:(s.head?=some 48)=(b0.toNat=48):=by rw [hd0];exact propext ⟨fun h=>by cases h;rfl,fun h=>congrArg some (UInt8.toNat_inj.1 h)⟩
   clear hs
   refine C193 _ _ _ ?_
   refine bindS_mk (t_eql) ?_
   refine g_split_f (fun c1=>?_) (fun c1=>?_)
   · try rw [c1]
     replace c1:=ne_of_beq_false c1
     refine bindV_mk (len_str (by kernel_rfl)) ?_
     refine bindS_mk (b_gtr) ?_
     refine Meet.of (cast_p (Gz19_eq _ _ _ _ _) ?_)
     refine bindV_mk p_f ?_
     refine g_split_f (fun c2=>?_) (fun c2=>?_)
     · try rw [c2]
       replace c2:=of_decide_eq_false c2
       refine bindV_mk (len_str (by kernel_rfl)) ?_
       refine bindS_mk (b_gtr) ?_
       refine Meet.of (cast_p (Gz1a_eq _ _ _ _ _) ?_)
       refine g_split_t (fun c3=>?_) (fun c3=>?_)
       · try rw [c3]
         replace c3:=of_decide_eq_true c3
         refine bindS_mk (ixS (b:=b0) (by kernel_rfl) (by omega) (by simpa using hb0)) ?_
         refine bindS_mk (b_eql) ?_
         refine Meet.of (cast_p (Gz1b_eq _ _ _ _ _ _) ?_)
         refine g_ff ?_
         refine bindV_mk p_t ?_
         refine Meet.of (cast_p (Gz1c_eq _ _ _ _ _) ?_)
         refine bindV_mk p_f ?_
         refine Meet.of (cast_p (Jz3y_eq _ _ _ _) ?_)
         refine i_split (fun c4=>?_) (fun c4=>?_)
         · try rw [c4]
           replace c4:=eq_of_beq c4
           rw [readT,if_pos (by rw [he];first | omega | (left;rw [c1];rfl))];rfl
         · try rw [c4]
           replace c4:=ne_of_beq_false c4
           refine Meet.of (cast_p (Jz3z_eq _ _ _) ?_)
           have hul:ul Pg 9=some .string:=by kernel_rfl
           refine ⟨hul,s.length + 1,Meet.of ?_⟩
           refine loop193 (q:=fun e=>e=.ret (rdV (readT s))) s (by omega) s.length 0 0 _ (s.length + 1) _ (by omega) (by omega) (by omega) (by omega) (by rw [make_m,if_pos rfl]) ?_
           rw [readT,if_neg (by rw [he];omega)];rfl
       · try rw [c3]
         replace c3:=of_decide_eq_false c3
         refine Meet.of (cast_p (Gz1b_eq _ _ _ _ _ _) ?_)
         refine g_ff ?_
         refine bindV_mk p_f ?_
         refine Meet.of (cast_p (Gz1c_eq _ _ _ _ _) ?_)
         refine bindV_mk p_f ?_
         refine Meet.of (cast_p (Jz3y_eq _ _ _ _) ?_)
         refine i_f ?_
         refine Meet.of (cast_p (Jz3z_eq _ _ _) ?_)
         have hul:ul Pg 9=some .string:=by kernel_rfl
         refine ⟨hul,s.length + 1,Meet.of ?_⟩
         refine loop193 (q:=fun e=>e=.ret (rdV (readT s))) s (by omega) s.length 0 0 _ (s.length + 1) _ (by omega) (by omega) (by omega) (by omega) (by rw [make_m,if_pos rfl]) ?_
         rw [readT,if_neg (by rw [he];omega)];rfl
     · try rw [c2]
       replace c2:=of_decide_eq_true c2
       refine Meet.of (cast_p (Gz1a_eq _ _ _ _ _) ?_)
       refine g_hole ?_
       refine Meet.of (cast_p (Gz1b_eq _ _ _ _ _ _) ?_)
       refine g_tf ?_
       refine Meet.of (cast_p (Gz1c_eq _ _ _ _ _) ?_)
       refine bindV_mk p_t ?_
       refine Meet.of (cast_p (Jz3y_eq _ _ _ _) ?_)
       refine i_t ?_
       rw [readT,if_pos (by rw [he];first | omega | (left;rw [c1];rfl))];rfl
   · try rw [c1]
     replace c1:=eq_of_beq c1
     refine Meet.of (cast_p (Gz19_eq _ _ _ _ _) ?_)
     refine bindV_mk p_t ?_
     refine g_tf ?_
     refine Meet.of (cast_p (Gz1a_eq _ _ _ _ _) ?_)
     refine g_hole ?_
     refine Meet.of (cast_p (Gz1b_eq _ _ _ _ _ _) ?_)
     refine g_tf ?_
     refine Meet.of (cast_p (Gz1c_eq _ _ _ _ _) ?_)
     refine bindV_mk p_t ?_
     refine Meet.of (cast_p (Jz3y_eq _ _ _ _) ?_)
     refine i_t ?_
     rw [readT,if_pos (by rw [he];first | omega | (left;rw [c1];rfl))];rfl
end Go.Proofs.YtcglbpjpbjaecaaGreat.Sh
namespace Go.Proofs.YtcglbpjpbjaecaaGreat.Sh
open Go Go.Ab Go.RowKit
open Go.Proofs.YtcglbpjpbjaecaaGreat.Ru (Pg okP)
open Go.Proofs.YtcglbpjpbjaecaaGreat.Sj (cutAt cutP cut_idx idxB)
set_option maxRecDepth 10000
def ix16 (b:UInt8):Int:=Go.Lib.indexByte lit16 b
theorem ix16_or (b:UInt8):ix16 b=-1∨(0≤ix16 b∧ix16 b < 16):=by
 rcases cut_idx b lit16 with ⟨h,_⟩ | ⟨i,h,hl,_⟩
 · exact .inl h
 · have:lit16.length=16:=rfl
   unfold ix16;omega
theorem ixP (b:UInt8) (h:AH):ACalls Pg 253 [.str lit16,.int .u8 b.toNat] h (pureE (.int .i64 (ix16 b)) h):=idxB lit16 b h
def bkL:List UInt8→List UInt8→List UInt8 × Bool
 | a :: b :: s,out=>if ix16 a < 0∨ix16 b < 0 then ([],false) else bkL s (out++[UInt8.ofNat (ix16 a * 16 + ix16 b).toNat])
 | _,out=>(out,true)
def backT (s:List UInt8):List UInt8 × Bool:=if s=[45] then ([],true) else if s.length=0∨s.length % 2≠0∨128 < s.length then ([],false) else bkL s []
def bkV (x:List UInt8 × Bool):V:=.tup [.str x.1,.bool x.2]
theorem bkL_len:∀ (k:Nat) (s out:List UInt8),s.length≤k→(bkL s out).1.length≤out.length + s.length
 | 0,s,out,h=>by
   have:s=[]:=List.length_eq_zero_iff.1 (by omega)
   subst this;simp [bkL]
 | k + 1,[],out,h=>by simp [bkL]
 | k + 1,[a],out,h=>by simp [bkL]
 | k + 1,a :: b :: s,out,h=>by
   rw [bkL]
   split
   · simp
   · have:=bkL_len k s (out++[UInt8.ofNat (ix16 a * 16 + ix16 b).toNat]) (by simp at h;omega)
     simp at this ⊢;omega
theorem or16:((List.range 16).all fun h=>(List.range 16).all fun l=>decide (bitI .or .i64 ((h * 16:Nat):Int) (l:Nat)=((h * 16 + l:Nat):Int)))=true:=by kernel_rfl
theorem orP {t:TypeId} {x y:Int} {c:Bool} (h0:0≤x) (h1:x < 16) (k0:0≤y) (k1:y < 16):aBin Pg .or t (.int .i64 (x * 16)) (.int .i64 y) c=some (.int .i64 (x * 16 + y)):=by
 rw [b_or]
 have h:=List.all_eq_true.1 or16 x.toNat (List.mem_range.2 (by omega))
 have h:=List.all_eq_true.1 h y.toNat (List.mem_range.2 (by omega))
 have h:=of_decide_eq_true h
 have e1:((x.toNat * 16:Nat):Int)=x * 16:=by omega
 have e2:((y.toNat:Nat):Int)=y:=by omega
 have e3:((x.toNat * 16 + y.toNat:Nat):Int)=x * 16 + y:=by omega
 rw [e1,e2,e3] at h
 rw [h]
theorem shl4 {t:TypeId} {x:Int} {c:Bool} (h0:0≤x) (h1:x < 16):aBin Pg .shl t (.int .i64 x) (.int .u64 4) c=some (.int .i64 (x * 16)):=by
 rw [b_shl (by omega)]
 have e:shlI .i64 x 4=IntKind.i64.wrap (x * 16):=rfl
 rw [e,wrap_i64 (by omega) (by omega)]
section
variable {q:AEnd→Prop}
theorem loop194 (s:List UInt8) (hs:s.length≤128) (he:s.length % 2=0):∀ (k i:Nat) (x:V) (h:AH) (m:Nat) (out:List UInt8),i≤s.length→i % 2=0→s.length - i≤2 * k→k < m→out.length≤i→BufB 5 h x out→q (.ret (bkV (bkL (s.drop i) out)))→Lz63 (fun e _=>q e) m (.str s) x (.int .i64 i) h:=by
 intro k
 induction k with
 | zero =>
   intro i x h m out hi hi2 hk hm ho hB c
   obtain ⟨m,rfl⟩:∃ j,m=j + 1:=⟨m - 1,by omega⟩
   rw [Lz63_eq]
   refine bindV_mk (len_str (by kernel_rfl)) ?_
   refine bindS_mk (b_lss) ?_
   refine i_split (fun c1=>?_) (fun c1=>?_)
   · try rw [c1]
     replace c1:=of_decide_eq_true c1
     exfalso;omega
   · try rw [c1]
     replace c1:=of_decide_eq_false c1
     refine Meet.of (cast_p (Jz4b_eq _ _ _) ?_)
     refine bindS_mk (hB.str (d:=9) (by kernel_rfl)) ?_
     rw [List.drop_of_length_le (by omega)] at c;exact c
 | succ k ih =>
   intro i x h m out hi hi2 hk hm ho hB c
   obtain ⟨m,rfl⟩:∃ j,m=j + 1:=⟨m - 1,by omega⟩
   rw [Lz63_eq]
   refine bindV_mk (len_str (by kernel_rfl)) ?_
   refine bindS_mk (b_lss) ?_
   refine i_split (fun c1=>?_) (fun c1=>?_)
   · try rw [c1]
     replace c1:=of_decide_eq_true c1
     obtain ⟨a,ha⟩:∃ b,s[i]?=some b:=⟨s[i]'(by omega),List.getElem?_eq_getElem (by omega)⟩
     obtain ⟨b,hb⟩:∃ b,s[i + 1]?=some b:=⟨s[i + 1]'(by omega),List.getElem?_eq_getElem (by omega)⟩
     have ka:=ix16_or a
     have kb:=ix16_or b
     have hd:s.drop i=a :: b :: s.drop (i + 2):=by rw [drop_at ha,drop_at hb]
     refine Meet.of (cast_p (Jz47_eq _ _ _ _ _ _) ?_)
     refine bindSO_mk (ixS (by kernel_rfl) (by omega) (show s[((i:Nat):Int).toNat]?=some a from ha)) ?_
     refine ⟨_,ixP a _,?_⟩
     first | refine bindSO_mk (w_add (by first | exact wrap_i64 (by omega) (by omega) | exact wr_u8 (by omega) (by omega) | exact wr_u16 (by omega) (by omega) | exact wr_u32 (by omega) (by omega) | exact wr_u64 (by omega) (by omega))) ?_ | refine bindSO_mk (b_add) ?_
     refine bindSO_mk (ixS (by kernel_rfl) (by omega) (by rw [show (((i:Nat):Int) + 1).toNat=i + 1 by omega];exact hb)) ?_
     refine ⟨_,ixP b _,?_⟩
     refine bindS_mk ((show aBin Pg .lss 3 (.int .i64 (ix16 a)) (.int .i64 0) true=_ from b_lss)) ?_
     refine g_split_f (fun c2=>?_) (fun c2=>?_)
     · try rw [c2]
       replace c2:=of_decide_eq_false c2
       refine bindS_mk ((show aBin Pg .lss 3 (.int .i64 (ix16 b)) (.int .i64 0) true=_ from b_lss)) ?_
       refine Meet.of (cast_p (Gz1g_eq _ _ _ _ _ _ _ _ _ _) ?_)
       refine bindV_mk p_f ?_
       refine Meet.of (cast_p (Jz48_eq _ _ _ _ _ _ _ _ _) ?_)
       refine i_split (fun c3=>?_) (fun c3=>?_)
       · try rw [c3]
         replace c3:=of_decide_eq_true c3
         rw [hd,bkL,if_pos (by omega)] at c;exact c
       · try rw [c3]
         replace c3:=of_decide_eq_false c3
         refine Meet.of (cast_p (Jz49_eq _ _ _ _ _ _ _ _) ?_)
         refine bindS_mk (shl4 (by omega) (by omega)) ?_
         refine bindS_mk (orP (by omega) (by omega) (by omega) (by omega)) ?_
         refine bindS_mk (cv_wr (d:=5) (k:=.u8) (by kernel_rfl) (wr_u8 (by omega) (by omega))) ?_
         refine bindE (bs1_at (e:=5) (by kernel_rfl) z5 (by kernel_rfl)) fun h4 u4=>?_
         have n4:=u4.next
         have f4_4:=u4.at_
         obtain ⟨v,h5,e5,B,hn5,_⟩:=(hB.keep (by omega) (fun k hk=>u4.other k hk)).app (w:=[UInt8.ofNat (ix16 a * 16 + ix16 b).toNat]) ap207 b5 ((elems_row f4_4).trans (byte1 (by omega) (by omega))) (by simp) (by simp;omega)
         refine bindV_mk (e5) ?_
         refine Meet.of (cast_p (Jz4a_eq _ _ _ _ _ _) ?_)
         first | refine bindS_mk (w_add (by first | exact wrap_i64 (by omega) (by omega) | exact wr_u8 (by omega) (by omega) | exact wr_u16 (by omega) (by omega) | exact wr_u32 (by omega) (by omega) | exact wr_u64 (by omega) (by omega))) ?_ | refine bindS_mk (b_add) ?_
         refine Meet.of ((congrArg (fun x:Int=>Lz63 (fun e _=>q e) m (.str s) v (.int .i64 x) _) (show ((i:Nat):Int) + 2=((i + 2:Nat):Int) by omega)).mpr (ih (i + 2) _ _ m _ (by omega) (by omega) (by omega) (by omega) (by simp;omega) B ?_))
         rw [hd,bkL,if_neg (by omega)] at c;exact c
     · try rw [c2]
       replace c2:=of_decide_eq_true c2
       refine Meet.of (cast_p (Gz1g_eq _ _ _ _ _ _ _ _ _ _) ?_)
       refine bindV_mk p_t ?_
       refine Meet.of (cast_p (Jz48_eq _ _ _ _ _ _ _ _ _) ?_)
       refine i_t ?_
       rw [hd,bkL,if_pos (by omega)] at c;exact c
   · try rw [c1]
     replace c1:=of_decide_eq_false c1
     refine Meet.of (cast_p (Jz4b_eq _ _ _) ?_)
     refine bindS_mk (hB.str (d:=9) (by kernel_rfl)) ?_
     rw [List.drop_of_length_le (by omega)] at c;exact c
end
theorem backP (s:List UInt8) (h:AH):ACalls Pg 194 [.str s] h (pureE (bkV (backT s)) h):=by
 refine pure_lift (by rfl) rfl ?_ h
 refine C194 _ _ _ ?_
 refine bindS_mk (t_eql) ?_
 refine i_split (fun c1=>?_) (fun c1=>?_)
 · try rw [c1]
   replace c1:=eq_of_beq c1
   rw [backT,if_pos c1];rfl
 · try rw [c1]
   replace c1:=ne_of_beq_false c1
   refine Meet.of (cast_p (Jz44_eq _ _ _) ?_)
   have h45:s≠[45]:=c1
   refine bindS_mk (t_eql) ?_
   refine g_split_f (fun c2=>?_) (fun c2=>?_)
   · try rw [c2]
     replace c2:=ne_of_beq_false c2
     refine bindV_mk (len_str (by kernel_rfl)) ?_
     first | refine bindS_mk (w_rem (by omega) (by omega)) ?_ | refine bindS_mk (b_rem (by decide)) ?_
     refine bindS_mk (b_neq) ?_
     refine Meet.of (cast_p (Gz1e_eq _ _ _ _ _) ?_)
     refine bindV_mk p_f ?_
     refine g_split_f (fun c3=>?_) (fun c3=>?_)
     · try rw [c3]
       replace c3:=eq_of_bne_false c3
       refine bindV_mk (len_str (by kernel_rfl)) ?_
       refine bindS_mk (b_gtr) ?_
       refine Meet.of (cast_p (Gz1f_eq _ _ _ _ _) ?_)
       refine bindV_mk p_f ?_
       refine Meet.of (cast_p (Jz45_eq _ _ _ _) ?_)
       refine i_split (fun c4=>?_) (fun c4=>?_)
       · try rw [c4]
         replace c4:=of_decide_eq_true c4
         rw [backT,if_neg h45,if_pos (by first | omega | (left;simp [*]))];rfl
       · try rw [c4]
         replace c4:=of_decide_eq_false c4
         refine Meet.of (cast_p (Jz46_eq _ _ _) ?_)
         have hl0:s.length≠0:=fun e=>absurd (List.length_eq_zero_iff.1 e) (by assumption)
         have hc:¬ (s.length=0∨s.length % 2≠0∨128 < s.length):=by omega
         exact ⟨s.length + 1,Meet.of (loop194 (q:=fun e=>e=.ret (bkV (backT s))) s (by omega) (by omega) s.length 0 _ _ _ [] (by omega) (by omega) (by omega) (by omega) (by simp) (.inl ⟨rfl,rfl⟩) (by rw [backT,if_neg h45,if_neg hc];rfl))⟩
     · try rw [c3]
       replace c3:=ne_of_bne c3
       refine Meet.of (cast_p (Gz1f_eq _ _ _ _ _) ?_)
       refine bindV_mk p_t ?_
       refine Meet.of (cast_p (Jz45_eq _ _ _ _) ?_)
       refine i_t ?_
       rw [backT,if_neg h45,if_pos (by first | omega | (left;simp [*]))];rfl
   · try rw [c2]
     replace c2:=eq_of_beq c2
     refine Meet.of (cast_p (Gz1e_eq _ _ _ _ _) ?_)
     refine bindV_mk p_t ?_
     refine g_tf ?_
     refine Meet.of (cast_p (Gz1f_eq _ _ _ _ _) ?_)
     refine bindV_mk p_t ?_
     refine Meet.of (cast_p (Jz45_eq _ _ _ _) ?_)
     refine i_t ?_
     rw [backT,if_neg h45,if_pos (by first | omega | (left;simp [*]))];rfl
end Go.Proofs.YtcglbpjpbjaecaaGreat.Sh
