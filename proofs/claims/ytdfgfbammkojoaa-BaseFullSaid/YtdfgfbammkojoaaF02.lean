import Derived.Test.YtdfgfbammkojoaaF01
set_option linter.unusedVariables false
set_option linter.unusedSimpArgs false
namespace Go.Ab
open Go Go.RowKit
variable {P:Program} {ι:Names} {W:World} {B:Base} {h:AH}
theorem intBin_ok {op:BinOp} {k:IntKind} {a b:Int} {v:V} (hl:intBin op k a b=some v) (t:TypeId) (W:World) :
   ∃ z,(binOp op t (.int k a) (.int k b)).run P W=.ok z W∧rel P ι v z:=by
 unfold intBin at hl
 split at hl <;> first | (cases hl;done) | skip
 case h_4 =>
   split at hl
   · cases hl
   · rename_i hb
     cases hl
     exact ⟨.int k _,by simp [binOp,Op.intDiv,hb],mk_int _ _⟩
 case h_5 =>
   split at hl
   · cases hl
   · rename_i hb
     cases hl
     exact ⟨.int k _,by simp [binOp,Op.intDiv,hb],mk_int _ _⟩
 all_goals
   cases hl
   first
     | (refine ⟨.int k _,?_,mk_int _ _⟩;simp [binOp,Op.intArith];done)
     | (refine ⟨.bool _,?_,mk_bool _⟩;simp [binOp,Op.intCmp];done)
     | (refine ⟨.int k _,?_,mk_int _ _⟩;simp [binOp];rfl)
theorem shl_ok {k yk:IntKind} {a b:Int} (hb:¬ b < 0) (t:TypeId) (W:World):(binOp .shl t (.int k a) (.int yk b)).run P W=.ok (.int k (shlI k a b)) W:=by
 simp [binOp,Op.shift,hb,shlI]
theorem shr_ok {k yk:IntKind} {a b:Int} (hb:¬ b < 0) (t:TypeId) (W:World):(binOp .shr t (.int k a) (.int yk b)).run P W=.ok (.int k (shrI k a b)) W:=by
 simp only [binOp,Op.shift,hb,if_false,shrI,Sem.run_pure]
 congr 2
 exact Int.fdiv_eq_ediv_of_nonneg _ (Int.le_of_lt (Int.pow_pos (by decide)))
def kv:V→Nat
 | .bool _=>0 | .int _ _=>1 | .str _=>2 | .ptr _=>3 | .slc _ _=>4 | .agg _=>5 | .map _=>6 | .fn _ _ _=>7 | .nilFn=>7 | .ifc _ _=>8 | .nilIfc=>8 | .tup _=>9 | .und=>9
def ka:Value→Nat
 | .bool _=>0 | .int _ _=>1 | .string _=>2 | .pointer _=>3 | .slice _ _ _=>4 | .agg _=>5 | .map _=>6 | .func _ _ _=>7 | .nilFunc=>7 | .iface _ _=>8 | .nilIface=>8 | .tuple _=>9
 | .float _ _=>9 | .complex _ _ _=>9 | .chan _=>9
theorem kv_int {x:V} (h:kv x=1):∃ k n,x=.int k n:=by cases x <;> first | exact ⟨_,_,rfl⟩ | (simp [kv] at h)
theorem kv_str {x:V} (h:kv x=2):∃ s,x=.str s:=by cases x <;> first | exact ⟨_,rfl⟩ | (simp [kv] at h)
theorem rel_kind {x:V} {a:Value} (hu:x≠.und) (h:rel P ι x a):ka a=kv x:=by
 cases x with
 | bool b=>rw [rel_bool h];rfl
 | int k n=>rw [rel_int h];rfl
 | str s=>rw [rel_str h];rfl
 | ptr p=>cases p with
   | none=>rw [rel_nilPtr h];rfl
   | some p=>obtain ⟨q,rfl,_⟩:=rel_ptr h;rfl
 | slc p n=>cases p with
   | none=>obtain ⟨_,rfl⟩:=rel_slc_nil h;rfl
   | some p=>obtain ⟨p,s⟩:=p;obtain ⟨q,c,rfl,_⟩:=rel_slc h;rfl
 | agg l=>obtain ⟨cs,rfl,_⟩:=rel_agg h;rfl
 | map p=>cases p with
   | none=>rw [rel_nilMap h];rfl
   | some p=>obtain ⟨_,_,rfl⟩:=rel_map h;rfl
 | fn f p q=>obtain ⟨_,_,rfl,_⟩:=rel_fn h;rfl
 | nilFn=>rw [rel_nilFn h];rfl
 | ifc t v=>obtain ⟨_,rfl,_⟩:=rel_ifc h;rfl
 | nilIfc=>rw [rel_nilIfc h];rfl
 | tup l =>
   obtain ⟨h1,_⟩:=rel_leaf_inv (by simp) (by simp) h
   simp only [relC,List.cons.injEq,and_true] at h1
   obtain ⟨vs,_,rfl⟩:=h1;rfl
 | und=>exact absurd rfl hu
theorem beqV_kind {x y:V} {r:Bool} (h:beqV x y=some r):kv x=kv y∧kv x≠9∧x≠.und:=by
 unfold beqV at h
 split at h <;> first | (cases h;done) | exact ⟨rfl,by simp [kv],by simp⟩
theorem aEq_kind {t:TypeId} {x y:V} {r:Bool} (h:aEq P t x y=some r):kv x=kv y∧kv x≠9∧kv x≠9:=by
 have:kv x=kv y∧kv x≠9:=by
   unfold aEq at h
   split at h
   · split at h
     · have:=beqV_kind h;exact ⟨this.1,this.2.1⟩
     · cases h
   · split at h <;> first | (cases h;done) | (split at h <;> first | (cases h;done) | exact ⟨rfl,by simp [kv]⟩)
 exact ⟨this.1,this.2,this.2⟩
theorem binOp_eql {t:TypeId} {a b:Value} (h:ka a=ka b) (h1:ka a≠1) (h2:ka a≠2) (h9:ka a≠9) :
   (binOp .eql t a b=do pure (.bool (← Op.equal t a b)))∧(binOp .neq t a b=do pure (.bool (!(← Op.equal t a b)))):=by
 cases a <;> first | (exfalso;first | exact h1 rfl | exact h2 rfl | exact h9 rfl) | (cases b <;> first | (exfalso;simp [ka] at h;done) | exact ⟨rfl,rfl⟩)
theorem aBin_ok (H:LayOK P) {op:BinOp} {t:TypeId} {x y v:V} {xo yo:Operand} {a b:Value} (hl:aBin P op t x y (Region.isConst xo || Region.isConst yo)=some v) (hx:rel P ι x a) (hy:rel P ι y b) (W:World) :
   ∃ z,(do eqGuard op t xo yo a b;binOp op t a b:Sem Value).run P W=.ok z W∧rel P ι v z:=by
 unfold aBin at hl
 split at hl
 · rename_i k p k' q
   obtain rfl:=rel_int hx
   obtain rfl:=rel_int hy
   have hg:(eqGuard op t xo yo (.int k p) (.int k' q)).run P W=.ok () W:=by
     unfold eqGuard;split <;> rfl
   simp only [Sem.run_bind,hg,Result.andThen_ok]
   split at hl
   · split at hl
     · cases hl
     · rename_i hb;cases hl;exact ⟨_,shl_ok hb t W,mk_int _ _⟩
   · split at hl
     · cases hl
     · rename_i hb;cases hl;exact ⟨_,shr_ok hb t W,mk_int _ _⟩
   · split at hl
     · rename_i hk;subst hk;exact intBin_ok hl t W
     · cases hl
 · rename_i p q
   obtain rfl:=rel_str hx
   obtain rfl:=rel_str hy
   have hg:(eqGuard op t xo yo (.string ⟨p.toArray⟩) (.string ⟨q.toArray⟩)).run P W=.ok () W:=by
     unfold eqGuard;split <;> rfl
   simp only [Sem.run_bind,hg,Result.andThen_ok]
   obtain ⟨z,h1,h2⟩:=strBin_ok (P:=P) (ι:=ι) hl W
   refine ⟨z,?_,h2⟩
   rw [← h1]
   cases op <;> first | rfl | (simp [strBin] at hl)
 · rename_i hni hns
   have main:∀ {r:Bool},eqOk P t x y (Region.isConst xo || Region.isConst yo)=true→aEq P t x y=some r→∀ f:Bool→Bool,(op=.eql∧f=id∨op=.neq∧f=not) →
       ∃ z,(do eqGuard op t xo yo a b;binOp op t a b:Sem Value).run P W=.ok z W∧rel P ι (.bool (f r)) z:=by
     intro r hok he f hf
     refine ⟨.bool (f r),?_,mk_bool _⟩
     have hg:=run_eqGuard (op:=op) hok hx hy W
     obtain ⟨k1,k2,k3⟩:=aEq_kind he
     have e1:=rel_kind (by rintro rfl;exact k3 rfl) hx
     have e2:=rel_kind (by rintro rfl;rw [k1] at k3;exact k3 rfl) hy
     have n1:kv x≠1:=by
       intro h1
       obtain ⟨k,p,rfl⟩:=kv_int h1
       obtain ⟨k',q,rfl⟩:=kv_int (k1.symm.trans h1)
       exact hni k p k' q rfl rfl
     have n2:kv x≠2:=by
       intro h1
       obtain ⟨p,rfl⟩:=kv_str h1
       obtain ⟨q,rfl⟩:=kv_str (k1.symm.trans h1)
       exact hns p q rfl rfl
     have heq:=aEq_ok H he hx hy W
     rcases hf with ⟨rfl,rfl⟩ | ⟨rfl,rfl⟩
     · have:=binOp_eql (t:=t) (a:=a) (b:=b) (by rw [e1,e2,k1]) (by rw [e1];exact n1) (by rw [e1];exact n2) (by rw [e1];exact k2)
       simp only [Sem.run_bind,hg,Result.andThen_ok,this.1,heq,Sem.run_pure];rfl
     · have:=binOp_eql (t:=t) (a:=a) (b:=b) (by rw [e1,e2,k1]) (by rw [e1];exact n1) (by rw [e1];exact n2) (by rw [e1];exact k2)
       simp only [Sem.run_bind,hg,Result.andThen_ok,this.2,heq,Sem.run_pure]
   split at hl
   · split at hl
     · rename_i hok
       cases he:aEq P t x y with
       | none=>rw [he] at hl;cases hl
       | some r=>rw [he] at hl;cases hl;exact main hok he id (.inl ⟨rfl,rfl⟩)
     · cases hl
   · split at hl
     · rename_i hok
       cases he:aEq P t x y with
       | none=>rw [he] at hl;cases hl
       | some r=>rw [he] at hl;cases hl;exact main hok he not (.inr ⟨rfl,rfl⟩)
     · cases hl
   · cases hl
end Go.Ab
namespace Go.Ab
open Go Go.RowKit
variable {P:Program} {ι:Names} {W:World} {B:Base} {h:AH}
def notPl:V→Bool
 | .ptr _=>true | .slc _ _=>true | .map _=>true | .fn _ _ _=>true | .nilFn=>true | .ifc _ _=>true | .nilIfc=>true
 | _=>false
theorem notPlain {d:Nat} {t:TypeId} {x:V} (hp:plainT P d t=true) (hn:notPl x=true):¬ hasShape P x t=true:=by
 intro hx
 have key:∃ f,leafT P t f=true∧f .bool=false∧(∀ k,f (.int k)=false)∧f .string=false∧(∀ fs,f (.struct fs)=false)∧∀ n e,f (.array n e)=false:=by
   cases x <;> first | (simp [notPl] at hn;done) | (simp only [hasShape] at hx;exact ⟨_,hx,rfl,fun _=>rfl,rfl,fun _=>rfl,fun _ _=>rfl⟩)
 obtain ⟨f,h1,h2,h3,h4,h5,h6⟩:=key
 obtain ⟨dd,hu,hd⟩:=leafT_some h1
 cases d with
 | zero=>simp [plainT] at hp
 | succ d =>
   simp only [plainT,hu] at hp
   cases dd <;> simp_all
mutual
theorem beqV_eq:∀ (x y:V) (t:TypeId) (d:Nat),plainT P d t=true→hasShape P x t=true→hasShape P y t=true→beqV x y=some true→x=y
 | .agg l,y,t,0,hp,_,_,_=>by simp [plainT] at hp
 | .agg l,y,t,d + 1,hp,hx,hy,he=>by
   cases y with
   | agg m =>
     simp only [beqV] at he
     simp only [hasShape] at hx hy
     simp only [plainT] at hp
     cases hu:ul P t with
     | none=>rw [hu] at hp;simp at hp
     | some dd =>
       rw [hu] at hp hx hy
       cases dd with
       | struct fs =>
         simp only [Bool.and_eq_true] at hp
         rw [beqVs_eq l m fs.toList d hp.2 hx hy he]
       | array n e =>
         simp only [Bool.and_eq_true] at hx hy
         rw [beqVsAll_eq l m e d hp hx.2 hy.2 he]
       | _=>simp at hx
   | _=>simp [beqV] at he
 | .bool p,y,t,d,hp,hx,hy,he=>by
   unfold beqV at he;split at he <;> first | (cases he;done) | skip
   all_goals simp_all
 | .int k p,y,t,d,hp,hx,hy,he=>by
   unfold beqV at he;split at he <;> first | (cases he;done) | skip
   all_goals simp_all
 | .str p,y,t,d,hp,hx,hy,he=>by
   unfold beqV at he;split at he <;> first | (cases he;done) | skip
   all_goals simp_all
 | .ptr p,y,t,d,hp,hx,hy,he=>absurd hx (notPlain hp (by simp [notPl]))
 | .slc p n,y,t,d,hp,hx,hy,he=>absurd hx (notPlain hp (by simp [notPl]))
 | .map p,y,t,d,hp,hx,hy,he=>absurd hx (notPlain hp (by simp [notPl]))
 | .fn f p q,y,t,d,hp,hx,hy,he=>absurd hx (notPlain hp (by simp [notPl]))
 | .nilFn,y,t,d,hp,hx,hy,he=>absurd hx (notPlain hp (by simp [notPl]))
 | .ifc u v,y,t,d,hp,hx,hy,he=>absurd hx (notPlain hp (by simp [notPl]))
 | .nilIfc,y,t,d,hp,hx,hy,he=>absurd hx (notPlain hp (by simp [notPl]))
 | .tup l,y,t,d,hp,hx,hy,he=>by simp [hasShape] at hx
 | .und,y,t,d,hp,hx,hy,he=>by simp [hasShape] at hx
theorem beqVs_eq:∀ (l m:List V) (fs:List Field) (d:Nat),(fs.all fun f=>f.name != "_" && plainT P d f.type)=true→shapes P l (fs.map (·.type))=true→shapes P m (fs.map (·.type))=true→beqVs l m=some true→l=m
 | [],[],_,_,_,_,_,_=>rfl
 | [],_ :: _,_,_,_,_,_,he=>by simp [beqVs] at he
 | _ :: _,[],_,_,_,_,_,he=>by simp [beqVs] at he
 | v :: vs,w :: ws,[],d,_,hx,_,_=>by simp [shapes] at hx
 | v :: vs,w :: ws,f :: fs,d,hp,hx,hy,he=>by
   simp only [List.all_cons,Bool.and_eq_true] at hp
   simp only [List.map_cons,shapes,Bool.and_eq_true] at hx hy
   simp only [beqVs] at he
   split at he
   · rename_i hq
     rw [beqV_eq v w f.type d hp.1.2 hx.1 hy.1 hq,beqVs_eq vs ws fs d hp.2 hx.2 hy.2 he]
   · cases he
   · cases he
theorem beqVsAll_eq:∀ (l m:List V) (e:TypeId) (d:Nat),plainT P d e=true→shapesAll P l e=true→shapesAll P m e=true→beqVs l m=some true→l=m
 | [],[],_,_,_,_,_,_=>rfl
 | [],_ :: _,_,_,_,_,_,he=>by simp [beqVs] at he
 | _ :: _,[],_,_,_,_,_,he=>by simp [beqVs] at he
 | v :: vs,w :: ws,e,d,hp,hx,hy,he=>by
   simp only [shapesAll,Bool.and_eq_true] at hx hy
   simp only [beqVs] at he
   split at he
   · rename_i hq
     rw [beqV_eq v w e d hp hx.1 hy.1 hq,beqVsAll_eq vs ws e d hp hx.2 hy.2 he]
   · cases he
   · cases he
end
mutual
theorem checkKey_ok (H:LayOK P) (em:Bool):∀ (x:V) (t:TypeId) (d D:Nat) (a:Value) (W:World),plainT P d t=true→d≤D→hasShape P x t=true→rel P ι x a→(Instr.checkKey em D t a).run P W=.ok () W
 | .agg l,t,0,D,a,W,hp,_,_,_=>by simp [plainT] at hp
 | .agg l,t,d + 1,D,a,W,hp,hD,hx,ha=>by
   obtain ⟨D,rfl⟩:∃ k,D=k + 1:=⟨D - 1,by omega⟩
   obtain ⟨cs,rfl,hcs⟩:=rel_agg ha
   simp only [hasShape] at hx
   simp only [plainT] at hp
   cases hu:ul P t with
   | none=>rw [hu] at hp;simp at hp
   | some dd =>
     rw [hu] at hp hx
     cases dd with
     | struct fs =>
       simp only [Bool.and_eq_true] at hp
       simp only [Instr.checkKey,Sem.run_bind,run_underlying' hu,Result.andThen_ok]
       rw [← Array.forIn_toList]
       rw [checkFields_ok H em l fs.toList d D [] cs.toList cs W hp.2 (by omega) hx hcs (by simpa using H.offs t fs hu) (by simp)]
       rfl
     | array n e =>
       simp only [Bool.and_eq_true,beq_iff_eq] at hx
       simp only [Instr.checkKey,Sem.run_bind,run_underlying' hu,Result.andThen_ok]
       simp only [Std.Legacy.Range.forIn_eq_forIn_range',Std.Legacy.Range.size,Nat.sub_zero,Nat.add_one_sub_one,Nat.div_one]
       rw [← hx.1]
       rw [checkItems_ok H em l e d D 0 [] cs.toList cs W hp (by omega) hx.2 hcs (by simp) (by simp)]
       rfl
     | _=>simp at hx
 | .bool p,t,d,D,a,W,hp,hD,hx,ha=>by
   obtain ⟨D,rfl⟩:∃ k,D=k + 1:=⟨D - 1,by cases d with | zero=>simp [plainT] at hp | succ d=>omega⟩
   simp only [hasShape] at hx
   obtain ⟨dd,hu,hd⟩:=leafT_some hx
   cases dd <;> simp at hd
   rw [rel_bool ha]
   simp only [Instr.checkKey,Sem.run_bind,run_underlying' hu,Result.andThen_ok,Sem.run_pure]
 | .int k p,t,d,D,a,W,hp,hD,hx,ha=>by
   obtain ⟨D,rfl⟩:∃ k,D=k + 1:=⟨D - 1,by cases d with | zero=>simp [plainT] at hp | succ d=>omega⟩
   simp only [hasShape] at hx
   obtain ⟨dd,hu,hd⟩:=leafT_some hx
   cases dd <;> simp at hd
   rw [rel_int ha]
   simp only [Instr.checkKey,Sem.run_bind,run_underlying' hu,Result.andThen_ok,Sem.run_pure]
 | .str p,t,d,D,a,W,hp,hD,hx,ha=>by
   obtain ⟨D,rfl⟩:∃ k,D=k + 1:=⟨D - 1,by cases d with | zero=>simp [plainT] at hp | succ d=>omega⟩
   simp only [hasShape] at hx
   obtain ⟨dd,hu,hd⟩:=leafT_some hx
   cases dd <;> simp at hd
   rw [rel_str ha]
   simp only [Instr.checkKey,Sem.run_bind,run_underlying' hu,Result.andThen_ok,Sem.run_pure]
 | .ptr p,t,d,D,a,W,hp,hD,hx,ha=>absurd hx (notPlain hp (by simp [notPl]))
 | .slc p n,t,d,D,a,W,hp,hD,hx,ha=>absurd hx (notPlain hp (by simp [notPl]))
 | .map p,t,d,D,a,W,hp,hD,hx,ha=>absurd hx (notPlain hp (by simp [notPl]))
 | .fn f p q,t,d,D,a,W,hp,hD,hx,ha=>absurd hx (notPlain hp (by simp [notPl]))
 | .nilFn,t,d,D,a,W,hp,hD,hx,ha=>absurd hx (notPlain hp (by simp [notPl]))
 | .ifc u v,t,d,D,a,W,hp,hD,hx,ha=>absurd hx (notPlain hp (by simp [notPl]))
 | .nilIfc,t,d,D,a,W,hp,hD,hx,ha=>absurd hx (notPlain hp (by simp [notPl]))
 | .tup l,t,d,D,a,W,hp,hD,hx,ha=>by simp [hasShape] at hx
 | .und,t,d,D,a,W,hp,hD,hx,ha=>by simp [hasShape] at hx
theorem checkFields_ok (H:LayOK P) (em:Bool):∀ (l:List V) (fs:List Field) (d D:Nat) (pa ra:List Value) (xs:Array Value) (W:World),(fs.all fun f=>f.name != "_" && plainT P d f.type)=true→d≤D →
   shapes P l (fs.map (·.type))=true→relCs P ι l ra→offsOk P fs pa.length=true→xs.toList=pa++ra →
   (forIn fs PUnit.unit fun f _=>(do
     if f.name≠"_" then
       Instr.checkKey em D f.type (← part f.type xs f.offset)
     pure (ForInStep.yield PUnit.unit):Sem (ForInStep PUnit))).run P W=.ok PUnit.unit W
 | _,[],d,D,pa,ra,xs,W,_,_,_,_,_,_=>rfl
 | [],_ :: _,d,D,pa,ra,xs,W,_,_,h1,_,_,_=>by simp [shapes] at h1
 | v :: vs,f :: fs,d,D,pa,ra,xs,W,hall,hD,h1,ra',ho,hx=>by
   simp only [List.all_cons,Bool.and_eq_true,bne_iff_ne,ne_eq] at hall
   simp only [List.map_cons,shapes,Bool.and_eq_true] at h1
   simp only [relCs] at ra'
   obtain ⟨a1,a2,k1,k2,rfl⟩:=ra'
   simp only [offsOk,Bool.and_eq_true,beq_iff_eq] at ho
   have l1:=size_ok H v f.type a1 h1.1 k1
   obtain ⟨x,p1,p2,_⟩:=run_part' (a:=pa) (c:=a2) H h1.1 k1 W
   have ex:(pa++a1++a2).toArray=xs:=by rw [List.append_assoc,← hx]
   rw [ex,← ho.1] at p1
   have e1:=checkKey_ok H em v f.type d D x W hall.1.2 hD h1.1 p2
   have hnm:f.name≠"_":=hall.1.1
   have:=checkFields_ok H em vs fs d D (pa++a1) a2 xs W hall.2 hD h1.2 k2 (by rw [List.length_append,l1];exact ho.2) (by rw [hx];simp)
   simp only [List.forIn_cons,Sem.run_bind,hnm,ne_eq,not_false_eq_true,if_true,p1,Result.andThen_ok,e1,Sem.run_pure]
   exact this
theorem checkItems_ok (H:LayOK P) (em:Bool):∀ (l:List V) (e:TypeId) (d D k:Nat) (pa ra:List Value) (xs:Array Value) (W:World),plainT P d e=true→d≤D →
   shapesAll P l e=true→relCs P ι l ra→pa.length=k * P.cellsOf e→xs.toList=pa++ra →
   (forIn (List.range' k l.length) PUnit.unit fun i _=>(do Instr.checkKey em D e (← part e xs (i * (← sizeOf e)));pure (ForInStep.yield PUnit.unit):Sem (ForInStep PUnit))).run P W=.ok PUnit.unit W
 | [],e,d,D,k,pa,ra,xs,W,_,_,_,_,_,_=>rfl
 | v :: vs,e,d,D,k,pa,ra,xs,W,hp,hD,h1,ra',hla,hx=>by
   simp only [shapesAll,Bool.and_eq_true] at h1
   simp only [relCs] at ra'
   obtain ⟨a1,a2,k1,k2,rfl⟩:=ra'
   have l1:=size_ok H v e a1 h1.1 k1
   obtain ⟨x,p1,p2,_⟩:=run_part' (a:=pa) (c:=a2) H h1.1 k1 W
   have ex:(pa++a1++a2).toArray=xs:=by rw [List.append_assoc,← hx]
   rw [ex,hla] at p1
   obtain ⟨de,hde⟩:=shape_ul h1.1
   have e1:=checkKey_ok H em v e d D x W hp hD h1.1 p2
   have:=checkItems_ok H em vs e d D (k + 1) (pa++a1) a2 xs W hp hD h1.2 k2 (by rw [List.length_append,l1,hla,Nat.add_mul,Nat.one_mul]) (by rw [hx];simp)
   simp only [List.length_cons,List.range'_succ,List.forIn_cons,Sem.run_bind,run_sizeOf' hde,p1,Result.andThen_ok,e1,Sem.run_pure]
   exact this
end
end Go.Ab
namespace Go.Ab
open Go Go.RowKit
variable {P:Program} {ι:Names} {W:World} {B:Base} {h:AH}
def aFind (k:V):List (V × V)→Option (Option (Nat × V))
 | []=>some none
 | (k',v) :: es=>match beqV k k' with
   | some true=>some (some (0,v))
   | some false=>match aFind k es with
     | some none=>some none
     | some (some (i,w))=>some (some (i + 1,w))
     | none=>none
   | none=>none
def shiftA:Option (Nat × V)→Option (Nat × V)
 | none=>none
 | some (i,w)=>some (i + 1,w)
def shiftF (i:Nat):Option (Nat × Value)→Option (Nat × Value)
 | none=>none
 | some (j,v)=>some (i + j,v)
def Found (P:Program) (ι:Names) (k:V) (kt et:TypeId) (es:List (V × V)) (xs:List MapEntry):Option (Nat × V)→Option (Nat × Value)→Prop
 | none,none=>True
 | some (i,v),some (j,x)=>i=j∧rel P ι v x∧hasShape P v et=true∧∃ e k',xs[i]?=some e∧x=e.val∧es[i]?=some (k',v)∧beqV k k'=some true∧rel P ι k' e.key∧hasShape P k' kt=true
 | _,_=>False
theorem found_shift {k k0:V} {kt et:TypeId} {es:List (V × V)} {xs:List MapEntry} {v0:V} {e0:MapEntry} {r:Option (Nat × V)} {r':Option (Nat × Value)} (hf:Found P ι k kt et es xs r r') :
   Found P ι k kt et ((k0,v0) :: es) (e0 :: xs) (shiftA r) (shiftF 1 r'):=by
 cases r with
 | none=>cases r' with
   | none=>trivial
   | some q=>exact hf.elim
 | some p =>
   obtain ⟨i,v⟩:=p
   cases r' with
   | none=>simp [Found] at hf
   | some q =>
     obtain ⟨j,x⟩:=q
     simp only [Found] at hf
     obtain ⟨rfl,h1,h2,e,k',h3,h4,h5,h6,h7⟩:=hf
     simp only [Found,shiftF,shiftA]
     exact ⟨by omega,h1,h2,e,k',by simpa using h3,h4,by simpa using h5,h6,h7⟩
theorem shift_shift (i:Nat) (r:Option (Nat × Value)):shiftF i (shiftF 1 r)=shiftF (i + 1) r:=by
 cases r with
 | none=>rfl
 | some p=>obtain ⟨j,v⟩:=p;simp [shiftF];omega
theorem findAsking_ok (H:LayOK P) {k:V} {kt et:TypeId} {a:Value} (hp:plainT P 20 kt=true) (hk:hasShape P k kt=true) (hka:rel P ι k a):∀ {es:List (V × V)} {xs:List MapEntry} {r:Option (Nat × V)} (i:Nat) (W:World),aFind k es=some r→relM P ι kt et es xs →
   ∃ r',(Instr.findAsking kt a xs i).run P W=.ok (shiftF i r') W∧Found P ι k kt et es xs r r'
 | [],xs,r,i,W,hf,hm=>by
   simp only [relM] at hm;subst hm
   simp only [aFind,Option.some.injEq] at hf;subst hf
   exact ⟨none,rfl,trivial⟩
 | (k',v) :: es,xs,r,i,W,hf,hm=>by
   simp only [relM] at hm
   obtain ⟨e,rest,rfl,h1,h2,h3⟩:=hm
   simp only [aFind] at hf
   cases hq:beqV k k' with
   | none=>rw [hq] at hf;cases hf
   | some q =>
     rw [hq] at hf
     have e1:(Op.equal kt a e.key).run P W=.ok q W:=run_equalIn' H k k' kt 20 Op.maxDepth a e.key q W hp (by decide) hk h1.2 hka h1.1 hq
     simp only [Instr.findAsking,Sem.run_bind,e1,Result.andThen_ok]
     cases q with
     | true =>
       simp only [Option.some.injEq] at hf;subst hf
       refine ⟨some (0,e.val),rfl,rfl,h2.1,h2.2,e,k',rfl,rfl,rfl,hq,h1.1,h1.2⟩
     | false =>
       simp only at hf
       cases hr:aFind k es with
       | none=>rw [hr] at hf;cases hf
       | some r0 =>
         obtain ⟨r',g1,g2⟩:=findAsking_ok H hp hk hka (i + 1) W hr h3
         have hr1:r=shiftA r0:=by
           rw [hr] at hf
           cases r0 with
           | none=>simpa [shiftA] using hf.symm
           | some p=>obtain ⟨j,w⟩:=p;simpa [shiftA] using hf.symm
         subst hr1
         refine ⟨shiftF 1 r',?_,found_shift g2⟩
         simp only [Bool.false_eq_true,if_false,g1,shift_shift]
theorem sameNow_beq {d:TypeDesc} {k k':V} {a b:Value} {t q:Bool} (hs:Instr.sameNow d a b=some t) (hq:beqV k k'=some q) (h1:rel P ι k a) (h2:rel P ι k' b):t=q:=by
 have hk1:k≠.und:=(beqV_kind hq).2.2
 have hk2:k'≠.und:=by
   have:=(beqV_kind hq)
   rintro rfl
   exact this.2.1 (by rw [this.1];rfl)
 have e1:=rel_kind hk1 h1
 have e2:=rel_kind hk2 h2
 unfold Instr.sameNow at hs
 split at hs
 · obtain ⟨x,n,rfl⟩:=kv_int e1.symm
   obtain ⟨y,m,rfl⟩:=kv_int e2.symm
   have:=rel_int h1;have:=rel_int h2
   simp only [beqV] at hq
   simp_all
 · obtain ⟨s,rfl⟩:=kv_str e1.symm
   obtain ⟨s',rfl⟩:=kv_str e2.symm
   have g1:=rel_str h1;have g2:=rel_str h2
   simp only [Value.string.injEq] at g1 g2
   subst g1;subst g2
   simp only [beqV,Option.some.injEq] at hq hs
   subst hq;subst hs
   have hq:((⟨s.toArray⟩:ByteArray) == ⟨s'.toArray⟩)=(s.toArray == s'.toArray):=rfl
   rw [hq];simp
 · have:∃ x,k=.bool x:=by cases k <;> first | exact ⟨_,rfl⟩ | (simp [kv,ka] at e1)
   obtain ⟨x,rfl⟩:=this
   have:∃ x,k'=.bool x:=by cases k' <;> first | exact ⟨_,rfl⟩ | (simp [kv,ka] at e2)
   obtain ⟨y,rfl⟩:=this
   have:=rel_bool h1;have:=rel_bool h2
   simp only [beqV,Option.some.injEq] at hq hs
   simp_all
 · cases hs
theorem findNow_ok {k:V} {kt et:TypeId} {a:Value} {d:TypeDesc} (hka:rel P ι k a):∀ {es:List (V × V)} {xs:List MapEntry} {r:Option (Nat × V)} {r1:Option (Nat × Value)} (i:Nat),aFind k es=some r→relM P ι kt et es xs→Instr.findNow d a xs i=some r1 →
   ∃ r',r1=shiftF i r'∧Found P ι k kt et es xs r r'
 | [],xs,r,r1,i,hf,hm,hn=>by
   simp only [relM] at hm;subst hm
   simp only [aFind,Option.some.injEq] at hf;subst hf
   simp only [Instr.findNow,Option.some.injEq] at hn;subst hn
   exact ⟨none,rfl,trivial⟩
 | (k',v) :: es,xs,r,r1,i,hf,hm,hn=>by
   simp only [relM] at hm
   obtain ⟨e,rest,rfl,h1,h2,h3⟩:=hm
   simp only [aFind] at hf
   cases hq:beqV k k' with
   | none=>rw [hq] at hf;cases hf
   | some q =>
     rw [hq] at hf
     simp only [Instr.findNow] at hn
     cases hs:Instr.sameNow d a e.key with
     | none=>rw [hs] at hn;cases hn
     | some t =>
       obtain rfl:=sameNow_beq hs hq hka h1.1
       rw [hs] at hn
       cases t with
       | true =>
         simp only [Option.some.injEq] at hf hn;subst hf;subst hn
         exact ⟨some (0,e.val),rfl,rfl,h2.1,h2.2,e,k',rfl,rfl,rfl,hq,h1.1,h1.2⟩
       | false =>
         simp only at hf hn
         cases hr:aFind k es with
         | none=>rw [hr] at hf;cases hf
         | some r0 =>
           obtain ⟨r',g1,g2⟩:=findNow_ok hka (i + 1) hr h3 hn
           have hr1:r=shiftA r0:=by
             rw [hr] at hf
             cases r0 with
             | none=>simpa [shiftA] using hf.symm
             | some p=>obtain ⟨j,w⟩:=p;simpa [shiftA] using hf.symm
           subst hr1
           exact ⟨shiftF 1 r',by rw [g1,shift_shift],found_shift g2⟩
theorem findKey_ok (H:LayOK P) {k:V} {kt et:TypeId} {a:Value} (hp:plainT P 20 kt=true) (hk:hasShape P k kt=true) (hka:rel P ι k a) {es:List (V × V)} {xs:List MapEntry} {r:Option (Nat × V)} (W:World) (hf:aFind k es=some r) (hm:relM P ι kt et es xs) :
   ∃ r',(Instr.findKey kt a xs).run P W=.ok r' W∧Found P ι k kt et es xs r r':=by
 obtain ⟨d,hd⟩:=shape_ul hk
 have shift0:∀ r':Option (Nat × Value),shiftF 0 r'=r':=by
   intro r';cases r' with
   | none=>rfl
   | some p=>obtain ⟨j,v⟩:=p;simp [shiftF]
 simp only [Instr.findKey,Sem.run_bind,run_underlying' hd,Result.andThen_ok]
 cases hn:Instr.findNow d a xs 0 with
 | some r1 =>
   obtain ⟨r',g1,g2⟩:=findNow_ok hka 0 hf hm hn
   rw [shift0] at g1;subst g1
   exact ⟨r1,rfl,g2⟩
 | none =>
   obtain ⟨r',g1,g2⟩:=findAsking_ok H hp hk hka 0 W hf hm
   rw [shift0] at g1
   exact ⟨r',g1,g2⟩
def aLookup (P:Program) (h:AH) (t:TypeId) (m k:V) (commaOk:Bool):Option V :=
 match ul P t with
 | some (.map kt et)=>if plainT P 20 kt && hasShape P k kt then match m with
   | .map none=>match zeroV P et with
     | some z=>some (if commaOk then .tup [z,.bool false] else z)
     | none=>none
   | .map (some n)=>match h.m n with
     | some (.mp kt' et' es)=>if kt=kt'∧et=et' then match aFind k es with
       | some (some (_,v))=>some (if commaOk then .tup [v,.bool true] else v)
       | some none=>match zeroV P et with
         | some z=>some (if commaOk then .tup [z,.bool false] else z)
         | none=>none
       | none=>none
       else none
     | _=>none
   | _=>none
   else none
 | _=>none
theorem mk_tup2 {a b:V} {x y:Value} (h1:rel P ι a x) (h2:rel P ι b y):rel P ι (.tup [a,b]) (.tuple #[x,y]) :=
 .inr ⟨rfl,by simp only [relC,Value.cells];exact ⟨[x,y],relL_cons h1 (relL_cons h2 relL_nil),rfl⟩⟩
theorem map_obj {n:Nat} {kt et:TypeId} {es:List (V × V)} {y:Value} (F:Fits P B ι h W) (hm:h.m n=some (.mp kt et es)) (hx:rel P ι (.map (some n)) y) :
   ∃ L xs clock,ι n=some L∧y=.map (some L.blk)∧W.heap[L.blk]?=some (.map xs clock)∧relM P ι kt et es xs.toList∧(getObj L.blk).run P W=.ok (.map xs clock) W∧Stamped xs.toList clock:=by
 obtain ⟨L,hL,xs,clock,h1,h2,h3⟩:=F.obj _ _ hm
 obtain ⟨L',hL',rfl⟩:=rel_map hx
 rw [hL] at hL';cases hL'
 exact ⟨L,xs,clock,hL,rfl,h1,h2,by simp [getObj,Sem.run,h1],h3⟩
theorem aLookup_ok (K:Ok P) (F:Fits P B ι h W) {t:TypeId} {m k v:V} {c:Bool} {y z:Value} (hl:aLookup P h t m k c=some v) (r1:rel P ι m y) (r2:rel P ι k z) :
   ∃ x,(Instr.lookup t y z c).run P W=.ok x W∧rel P ι v x:=by
 unfold aLookup at hl
 split at hl
 · rename_i kt et hu
   split at hl
   · rename_i hc
     simp only [Bool.and_eq_true] at hc
     have hck:=fun em=>checkKey_ok K.lay em k kt 20 10000 z W hc.1 (by decide) hc.2 r2
     have zero:∀ {v:V},(match zeroV P et with | some z=>some (if c then .tup [z,.bool false] else z) | none=>none)=some v→∃ zz,(zeroValue et).run P W=.ok zz W∧rel P ι v (if c then .tuple #[zz,.bool false] else zz):=by
       intro v hv
       split at hv
       · rename_i zv hz
         obtain ⟨zz,z1,z2,z3,z4⟩:=run_zeroValue' K hz W
         cases hv
         refine ⟨zz,z1,?_⟩
         cases c
         · exact .inr ⟨z2,z3 ι⟩
         · exact mk_tup2 (.inr ⟨z2,z3 ι⟩) (mk_bool _)
       · cases hv
     split at hl
     · obtain rfl:=rel_nilMap r1
       obtain ⟨zz,z1,z2⟩:=zero hl
       refine ⟨_,?_,z2⟩
       have hfk:(Instr.findKey kt z []).run P W=.ok none W:=by
         obtain ⟨d,hd⟩:=shape_ul hc.2
         simp only [Instr.findKey,Sem.run_bind,run_underlying' hd,Result.andThen_ok,Instr.findNow,Sem.run_pure]
       simp only [Instr.lookup,Sem.run_bind,run_underlying' hu,Result.andThen_ok,Sem.run_pure,hck,hfk,z1]
     · rename_i n
       split at hl
       · rename_i kt' et' es hm
         split at hl
         · rename_i htt
           obtain ⟨rfl,rfl⟩:=htt
           obtain ⟨L,xs,clock,hL,rfl,hb,hrm,hget,hst⟩:=map_obj F hm r1
           split at hl
           · rename_i i w hf
             cases hl
             obtain ⟨r',g1,g2⟩:=findKey_ok K.lay hc.1 hc.2 r2 W hf hrm
             cases r' with
             | none=>simp [Found] at g2
             | some q =>
               obtain ⟨j,x⟩:=q
               simp only [Found] at g2
               obtain ⟨rfl,hrv,_⟩:=g2
               refine ⟨if c then .tuple #[x,.bool true] else x,?_,?_⟩
               · simp only [Instr.lookup,Sem.run_bind,run_underlying' hu,Result.andThen_ok,Sem.run_pure,hget,hck,g1]
               · cases c
                 · exact hrv
                 · exact mk_tup2 hrv (mk_bool _)
           · rename_i hf
             obtain ⟨zz,z1,z2⟩:=zero hl
             obtain ⟨r',g1,g2⟩:=findKey_ok K.lay hc.1 hc.2 r2 W hf hrm
             cases r' with
             | some q=>obtain ⟨j,x⟩:=q;simp [Found] at g2
             | none =>
               refine ⟨_,?_,z2⟩
               simp only [Instr.lookup,Sem.run_bind,run_underlying' hu,Result.andThen_ok,Sem.run_pure,hget,hck,g1,z1]
           · cases hl
         · cases hl
       · cases hl
     · cases hl
   · cases hl
 · cases hl
def World.putObj (W:World) (b:Nat) (o:Obj):World:={ W with heap:=W.heap.setIfInBounds b o }
theorem Fits.setMap (F:Fits P B ι h W) {n:Nat} {kt et:TypeId} {es es':List (V × V)} {L:Loc} (hm:h.m n=some (.mp kt et es)) (hL:ι n=some L) (xs:Array MapEntry) (clock:Nat) (hr:relM P ι kt et es' xs.toList) (hst:Stamped xs.toList clock) :
   Fits P B ι (h.put n (.mp kt et es')) (World.putObj W L.blk (.map xs clock)):=by
 obtain ⟨L',hL',hobj⟩:=F.obj n _ hm
 rw [hL] at hL';cases hL'
 have hlt:=objR_blk hobj
 have hne:∀ k,k≠L.blk→(World.putObj W L.blk (.map xs clock)).heap[k]?=W.heap[k]?:=by
   intro k hk;simp only [World.putObj];rw [Array.getElem?_setIfInBounds_ne (by omega)]
 refine ⟨?_,F.fresh,?_,?_,?_,F.os,F.tape,F.output,by simpa [World.putObj] using F.size⟩
 · intro k o hk
   by_cases e:k=n
   · subst e
     simp only [AH.put,if_true,Option.some.injEq] at hk
     subst hk
     exact ⟨L,hL,xs,clock,by simp [World.putObj,hlt],hr,hst⟩
   · simp only [AH.put,if_neg e] at hk
     obtain ⟨Lk,h1,h2⟩:=F.obj k o hk
     refine ⟨Lk,h1,objR_keep (Names.le_refl _) ?_ h2⟩
     exact hne _ (fun e'=>F.apart n k _ _ L Lk hm hk (fun e''=>e e''.symm) rfl hL h1 e'.symm)
 · intro i j o o' Li Lj hi hj hne hown h1 h2
   simp only [AH.put] at hi hj
   split at hi <;> split at hj
   · omega
   · rename_i e1 _;subst e1;cases hi;exact F.apart i j _ _ Li Lj hm hj hne rfl h1 h2
   · rename_i _ e2;subst e2;cases hj;exact F.apart i j _ _ Li Lj hi hm hne hown h1 h2
   · exact F.apart i j _ _ Li Lj hi hj hne hown h1 h2
 · intro i o Li hi hown h1
   simp only [AH.put] at hi
   split at hi
   · rename_i e;subst e;cases hi;exact F.free i _ Li hm rfl h1
   · exact F.free i o Li hi hown h1
 · intro b hb
   obtain ⟨h1,h2⟩:=F.frame b hb
   have:b≠L.blk:=fun e=>F.free n _ L hm rfl hL (e▸hb)
   exact ⟨by rw [hne _ this,h1],by simpa [World.putObj] using h2⟩
theorem Stamped.set {xs:List MapEntry} {c i:Nat} {key val:Value} (h:Stamped xs c):Stamped (xs.modify i fun e=>{ e with key,val }) c:=by
 have e:∀ (xs:List MapEntry) (i:Nat),(xs.modify i fun e=>{ e with key,val }).map (·.born)=xs.map (·.born):=by
   intro xs
   induction xs with
   | nil=>intro i;simp
   | cons x xs ih=>intro i;cases i with
     | zero=>simp
     | succ i=>simp [ih i]
 have all:∀ (l:List MapEntry),(∀ x∈l,x.born < c)↔∀ b∈l.map (·.born),b < c:=by intro l;simp
 refine ⟨?_,by rw [e];exact h.2⟩
 rw [all,e,← all];exact h.1
theorem Stamped.snoc {xs:List MapEntry} {c:Nat} {key val:Value} (h:Stamped xs c):Stamped (xs++[{ key,val,born:=c }]) (c + 1):=by
 refine ⟨fun x hx=>?_,?_⟩
 · rcases List.mem_append.1 hx with hx | hx
   · have:=h.1 x hx;omega
   · simp at hx;subst hx;exact Nat.lt_succ_self c
 · rw [List.map_append,List.nodup_append]
   refine ⟨h.2,by simp,fun a ha b hb=>?_⟩
   simp at hb;subst hb
   obtain ⟨x,hx,rfl⟩:=List.mem_map.1 ha
   exact Nat.ne_of_lt (h.1 x hx)
theorem Stamped.erase {xs:List MapEntry} {c i:Nat} (h:Stamped xs c):Stamped (xs.eraseIdx i) c:=by
 refine ⟨fun x hx=>h.1 x (List.mem_of_mem_eraseIdx hx),?_⟩
 have:(xs.eraseIdx i).map (·.born)=(xs.map (·.born)).eraseIdx i:=by
   have e:∀ (xs:List MapEntry) (i:Nat),(xs.eraseIdx i).map (·.born)=(xs.map (·.born)).eraseIdx i:=by
     intro xs
     induction xs with
     | nil=>intro i;simp
     | cons x xs ih=>intro i;cases i with
       | zero=>simp
       | succ i=>simp [ih i]
   exact e xs i
 rw [this]
 exact List.Nodup.sublist (List.eraseIdx_sublist _ _) h.2
theorem relM_get {kt et:TypeId}:∀ {es:List (V × V)} {xs:List MapEntry},relM P ι kt et es xs→xs.length=es.length
 | [],xs,h=>by simp only [relM] at h;subst h;rfl
 | (k,v) :: es,xs,h=>by
   simp only [relM] at h
   obtain ⟨e,rest,rfl,_,_,h3⟩:=h
   simp [relM_get h3]
theorem relM_set {kt et:TypeId} {k v:V} {f:MapEntry→MapEntry}:∀ {es:List (V × V)} {xs:List MapEntry} {i:Nat},relM P ι kt et es xs→(∀ e,xs[i]?=some e→(rel P ι k (f e).key∧hasShape P k kt=true)∧(rel P ι v (f e).val∧hasShape P v et=true)) →
   relM P ι kt et (es.set i (k,v)) (xs.modify i f)
 | [],xs,i,h,_=>by simp only [relM] at h;subst h;simp [relM]
 | (k',v') :: es,xs,i,h,hf=>by
   simp only [relM] at h
   obtain ⟨e,rest,rfl,h1,h2,h3⟩:=h
   cases i with
   | zero =>
     simp only [List.set_cons_zero,List.modify_zero_cons,relM]
     obtain ⟨g1,g2⟩:=hf e rfl
     exact ⟨f e,rest,rfl,g1,g2,h3⟩
   | succ i =>
     simp only [List.set_cons_succ,List.modify_succ_cons,relM]
     exact ⟨e,_,rfl,h1,h2,relM_set h3 fun e' he'=>hf e' (by simpa using he')⟩
theorem relM_snoc {kt et:TypeId} {k v:V} {e0:MapEntry} (h1:rel P ι k e0.key∧hasShape P k kt=true) (h2:rel P ι v e0.val∧hasShape P v et=true):∀ {es:List (V × V)} {xs:List MapEntry},relM P ι kt et es xs →
   relM P ι kt et (es++[(k,v)]) (xs++[e0])
 | [],xs,h=>by simp only [relM] at h;subst h;simp only [List.nil_append,relM];exact ⟨e0,[],rfl,h1,h2,rfl⟩
 | (k',v') :: es,xs,h=>by
   simp only [relM] at h
   obtain ⟨e,rest,rfl,g1,g2,g3⟩:=h
   simp only [List.cons_append,relM]
   exact ⟨e,rest++[e0],rfl,g1,g2,relM_snoc h1 h2 g3⟩
theorem relM_erase {kt et:TypeId}:∀ {es:List (V × V)} {xs:List MapEntry} {i:Nat},relM P ι kt et es xs→relM P ι kt et (es.eraseIdx i) (xs.eraseIdx i)
 | [],xs,i,h=>by simp only [relM] at h;subst h;simp [relM]
 | (k',v') :: es,xs,i,h=>by
   simp only [relM] at h
   obtain ⟨e,rest,rfl,g1,g2,g3⟩:=h
   cases i with
   | zero=>simpa using g3
   | succ i=>simp only [List.eraseIdx_cons_succ,relM];exact ⟨e,_,rfl,g1,g2,relM_erase g3⟩
def aMapSet (P:Program) (h:AH) (t:TypeId) (m k v:V):Option AH :=
 match ul P t with
 | some (.map kt et)=>if plainT P 20 kt && hasShape P k kt && hasShape P v et then match m with
   | .map (some n)=>match h.m n with
     | some (.mp kt' et' es)=>if kt=kt'∧et=et' then match aFind k es with
       | some (some (i,_))=>some (h.put n (.mp kt et (es.set i (k,v))))
       | some none=>some (h.put n (.mp kt et (es++[(k,v)])))
       | none=>none
       else none
     | _=>none
   | _=>none
   else none
 | _=>none
theorem putObj_drawn (W:World) (n b:Nat) (o:Obj):World.putObj { W with drawn:=n } b o={ World.putObj W b o with drawn:=n }:=rfl
theorem aMapSet_ok (K:Ok P) (F:Fits P B ι h W) {t:TypeId} {m k v:V} {h':AH} {y z x:Value} (hl:aMapSet P h t m k v=some h') (r1:rel P ι m y) (r2:rel P ι k z) (r3:rel P ι v x) :
   DoesU P B ι W (Instr.mapUpdate t y z x) h':=by
 unfold aMapSet at hl
 split at hl
 · rename_i kt et hu
   split at hl
   · rename_i hc
     simp only [Bool.and_eq_true] at hc
     have hck:=fun em=>checkKey_ok K.lay em k kt 20 10000 z W hc.1.1 (by decide) hc.1.2 r2
     split at hl
     · rename_i n
       split at hl
       · rename_i kt' et' es hm
         split at hl
         · rename_i htt
           obtain ⟨rfl,rfl⟩:=htt
           obtain ⟨L,xs,clock,hL,rfl,hb,hrm,hget,hst⟩:=map_obj F hm r1
           have hset:∀ (W':World) (o:Obj),W'.heap=W.heap→(setObj L.blk o).run P W'=.ok () (World.putObj W' L.blk o):=by
             intro W' o hW'
             simp only [setObj,Sem.run,hW',hb,World.putObj]
           split at hl
           · rename_i i w hf
             cases hl
             obtain ⟨r',g1,g2⟩:=findKey_ok K.lay hc.1.1 hc.1.2 r2 W hf hrm
             cases r' with
             | none=>simp [Found] at g2
             | some q =>
               obtain ⟨j,q⟩:=q
               simp only [Found] at g2
               obtain ⟨rfl,hrv,hsv,e,k',he,_,hek,hbk,hrk,hsk⟩:=g2
               have hkk:k=k':=beqV_eq k k' kt 20 hc.1.1 hc.1.2 hsk hbk
               subst hkk
               have hxe:xs[i]?=some e:=by simpa using he
               have stays:∃ key n,(Instr.keyThatStays (((xs[i]?).map (·.key)).getD z) z).run P W=.ok key { W with drawn:=n }∧rel P ι k key:=by
                 rw [hxe]
                 simp only [Option.map_some,Option.getD_some,Instr.keyThatStays]
                 split
                 · exact ⟨z,W.drawn,rfl,r2⟩
                 · simp only [Sem.run_bind,run_choose]
                   split
                   · simp only [Result.andThen_ok]
                     exact ⟨_,W.drawn,rfl,by split <;> assumption⟩
                   · simp only [Result.andThen_ok]
                     refine ⟨_,W.drawn + 1,rfl,by split <;> assumption⟩
               obtain ⟨key,dn,s1,s2⟩:=stays
               refine ⟨ι,_,?_,Names.le_refl _,(F.setMap hm hL (xs.modify i fun e=>{ e with key,val:=x }) clock (es':=es.set i (k,v)) ?_ ?_).drew dn⟩
               · simp only [Instr.mapUpdate,Sem.run_bind,run_underlying' hu,Result.andThen_ok,hget,hck,g1,s1,hset { W with drawn:=dn } _ rfl,putObj_drawn]
               · rw [Array.toList_modify]
                 exact relM_set hrm fun e' _=>⟨⟨s2,hc.1.2⟩,⟨r3,hc.2⟩⟩
               · rw [Array.toList_modify]
                 exact hst.set
           · rename_i hf
             cases hl
             obtain ⟨r',g1,g2⟩:=findKey_ok K.lay hc.1.1 hc.1.2 r2 W hf hrm
             cases r' with
             | some q=>obtain ⟨j,x⟩:=q;simp [Found] at g2
             | none =>
               refine ⟨ι,_,?_,Names.le_refl _,F.setMap hm hL (xs.push { key:=z,val:=x,born:=clock }) (clock + 1) (es':=es++[(k,v)]) ?_ ?_⟩
               · simp only [Instr.mapUpdate,Sem.run_bind,run_underlying' hu,Result.andThen_ok,hget,hck,g1,hset W _ rfl]
               · rw [Array.toList_push]
                 exact relM_snoc ⟨r2,hc.1.2⟩ ⟨r3,hc.2⟩ hrm
               · rw [Array.toList_push]
                 exact hst.snoc
           · cases hl
         · cases hl
       · cases hl
     · cases hl
   · cases hl
 · cases hl
def aMapDel (P:Program) (h:AH) (t:TypeId) (m k:V):Option AH :=
 match ul P t with
 | some (.map kt _)=>if plainT P 20 kt && hasShape P k kt then match m with
   | .map (some n)=>match h.m n with
     | some (.mp kt' et es)=>if kt=kt' then match aFind k es with
       | some (some (i,_))=>some (h.put n (.mp kt et (es.eraseIdx i)))
       | some none=>some h
       | none=>none
       else none
     | _=>none
   | _=>none
   else none
 | _=>none
theorem putObj_self {b:Nat} {o:Obj} (hb:W.heap[b]?=some o):World.putObj W b o=W:=by
 have hlt:=getBlk_lt hb
 have:W.heap.setIfInBounds b o=W.heap:=by
   apply Array.ext_getElem?
   intro i
   by_cases hi:i=b
   · subst hi;rw [hb];simp [hlt]
   · rw [Array.getElem?_setIfInBounds_ne (by omega)]
 simp [World.putObj,this]
theorem aMapDel_ok (K:Ok P) (F:Fits P B ι h W) {t ty kt0:TypeId} {m k:V} {h':AH} {y z:Value} (hl:aMapDel P h t m k=some h') (r1:rel P ι m y) (r2:rel P ι k z) :
   ∃ W',(Builtin.delete_ #[t,kt0] ty #[y,z]).run P W=.ok (.tuple #[]) W'∧Fits P B ι h' W':=by
 unfold aMapDel at hl
 split at hl
 · rename_i kt et0 hu
   split at hl
   · rename_i hc
     simp only [Bool.and_eq_true] at hc
     have hck:=fun em=>checkKey_ok K.lay em k kt 20 10000 z W hc.1 (by decide) hc.2 r2
     split at hl
     · rename_i n
       split at hl
       · rename_i kt' et es hm
         split at hl
         · rename_i htt
           subst htt
           obtain ⟨L,xs,clock,hL,rfl,hb,hrm,hget,hst⟩:=map_obj F hm r1
           have hset:∀ (o:Obj),(setObj L.blk o).run P W=.ok () (World.putObj W L.blk o):=by
             intro o
             simp only [setObj,Sem.run,hb]
             rfl
           split at hl
           · rename_i i w hf
             cases hl
             obtain ⟨r',g1,g2⟩:=findKey_ok K.lay hc.1 hc.2 r2 W hf hrm
             cases r' with
             | none=>simp [Found] at g2
             | some q =>
               obtain ⟨j,q⟩:=q
               simp only [Found] at g2
               obtain ⟨rfl,_⟩:=g2
               refine ⟨_,?_,F.setMap hm hL (xs.eraseIdxIfInBounds i) clock (es':=es.eraseIdx i) ?_ ?_⟩
               · simp only [Builtin.delete_,List.getElem?_toArray,List.getElem?_cons_zero,List.getElem?_cons_succ,Sem.run_bind,run_underlying' hu,Result.andThen_ok,hget,hck,g1,hset,Sem.run_pure]
               · rw [Array.toList_eraseIdxIfInBounds]
                 exact relM_erase hrm
               · rw [Array.toList_eraseIdxIfInBounds]
                 exact hst.erase
           · rename_i hf
             cases hl
             obtain ⟨r',g1,g2⟩:=findKey_ok K.lay hc.1 hc.2 r2 W hf hrm
             cases r' with
             | some q=>obtain ⟨j,x⟩:=q;simp [Found] at g2
             | none =>
               refine ⟨W,?_,F⟩
               simp only [Builtin.delete_,List.getElem?_toArray,List.getElem?_cons_zero,List.getElem?_cons_succ,Sem.run_bind,run_underlying' hu,Result.andThen_ok,hget,hck,g1,hset,Sem.run_pure,putObj_self hb]
           · cases hl
         · cases hl
       · cases hl
     · cases hl
   · cases hl
 · cases hl
def aMakeMap (P:Program) (h:AH) (t:TypeId):Option (V × AH) :=
 match ul P t with
 | some (.map kt et)=>some (.map (some h.next),h.make (.mp kt et []))
 | _=>none
theorem aMakeMap_ok (F:Fits P B ι h W) {t:TypeId} {v:V} {h':AH} (hl:aMakeMap P h t=some (v,h')):Does P B ι W (Instr.makeMap t none) v h':=by
 unfold aMakeMap at hl
 split at hl
 · rename_i kt et hu
   simp only [Option.some.injEq,Prod.mk.injEq] at hl
   obtain ⟨rfl,rfl⟩:=hl
   let L:Loc:=⟨W.heap.size,0,0,.one 0⟩
   obtain ⟨f1,f2⟩:=F.make (.mp kt et []) (.map #[] 0) L rfl ⟨#[],0,by simp [L],by simp [relM],by simp [Stamped]⟩
   refine ⟨_,_,.map (some W.heap.size),by simp [Instr.makeMap],f1,f2,.inr ⟨rfl,?_⟩⟩
   simp only [relC,Value.cells]
   exact ⟨L,by simp [Names.add],rfl⟩
 · cases hl
def aMapLen (h:AH) (x:V):Option V :=
 match x with
 | .map none=>some (.int .i64 0)
 | .map (some n)=>match h.m n with
   | some (.mp _ _ es)=>some (.int .i64 es.length)
   | _=>none
 | _=>none
theorem aMapLen_ok (F:Fits P B ι h W) {t ty kt et:TypeId} {x v:V} {y:Value} (hu:ul P t=some (.map kt et)) (hl:aMapLen h x=some v) (r:rel P ι x y):∃ z,(Builtin.len_ #[t] ty #[y]).run P W=.ok z W∧rel P ι v z:=by
 unfold aMapLen at hl
 split at hl
 · cases hl
   obtain rfl:=rel_nilMap r
   refine ⟨.int .i64 0,?_,mk_int _ _⟩
   simp only [Builtin.len_,List.getElem?_toArray,List.getElem?_cons_zero,Sem.run_bind,run_underlying' hu,Result.andThen_ok,Sem.run_pure]
   rfl
 · rename_i n
   split at hl
   · rename_i kt' et' es hm
     cases hl
     obtain ⟨L,xs,clock,hL,rfl,hb,hrm,hget,hst⟩:=map_obj F hm r
     refine ⟨.int .i64 es.length,?_,mk_int _ _⟩
     have:=relM_get hrm
     have hsz:xs.size=es.length:=by simpa using this
     simp only [Builtin.len_,List.getElem?_toArray,List.getElem?_cons_zero,Sem.run_bind,run_underlying' hu,Result.andThen_ok,hget,Sem.run_pure,goInt,hsz]
   · cases hl
 · cases hl
end Go.Ab
namespace Go.Ab
open Go Go.RowKit
variable {P:Program} {ι:Names} {W:World} {B:Base} {h:AH}
def aUn (op:UnOp) (x:V):Option V :=
 match op,x with
 | .neg,.int k n=>some (.int k (k.wrap (0 - n)))
 | .xor,.int k n=>some (.int k (bitI .xor k (if k.signed then -1 else k.max) n))
 | .not,.bool b=>some (.bool (!b))
 | _,_=>none
theorem aUn_ok {op:UnOp} {x v:V} {y:Value} (hl:aUn op x=some v) (r:rel P ι x y) (W:World):∃ z,(Op.unary op y).run P W=.ok z W∧rel P ι v z:=by
 unfold aUn at hl
 split at hl
 · cases hl;rw [rel_int r];exact ⟨_,rfl,mk_int _ _⟩
 · cases hl;rw [rel_int r];exact ⟨_,rfl,mk_int _ _⟩
 · cases hl;rw [rel_bool r];exact ⟨_,rfl,mk_bool _⟩
 · cases hl
def aConv (P:Program) (h:AH) (src dst:TypeId) (x:V):Option V :=
 match x with
 | .int _ n=>match ul P src,ul P dst with
   | some _,some (.int k)=>some (.int k (k.wrap n))
   | _,_=>none
 | .str s=>match ul P src,ul P dst with
   | some .string,some .string=>some (.str s)
   | _,_=>none
 | x=>aBytesStr P h src dst x
theorem aConv_ok (K:Ok P) (F:Fits P B ι h W) {src dst:TypeId} {x v:V} {y:Value} (hl:aConv P h src dst x=some v) (r:rel P ι x y):∃ z,(convert src dst y).run P W=.ok z W∧rel P ι v z:=by
 unfold aConv at hl
 split at hl
 · rename_i k n
   split at hl
   · rename_i d k' hs hd
     cases hl
     rw [rel_int r]
     refine ⟨.int k' (k'.wrap n),?_,mk_int _ _⟩
     simp only [convert,Sem.run_bind,run_underlying' hs,run_underlying' hd,Result.andThen_ok]
     rfl
   · cases hl
 · split at hl
   · rename_i s hs hd
     cases hl
     rw [rel_str r]
     refine ⟨_,?_,mk_str _⟩
     simp only [convert,Sem.run_bind,run_underlying' hs,run_underlying' hd,Result.andThen_ok,Sem.run_pure]
   · cases hl
 · exact aBytesStr_ok K F hl r
def aIface (P:Program) (t:TypeId) (x:V):Option V :=
 if isUnd x then none else match ul P t with
 | some (.interface _)=>none
 | some _=>some (.ifc t x)
 | none=>none
theorem aIface_ok {t:TypeId} {x v:V} {y:Value} (hl:aIface P t x=some v) (r:rel P ι x y) (W:World):∃ z,(Instr.makeInterface t y).run P W=.ok z W∧rel P ι v z:=by
 unfold aIface at hl
 split at hl
 · cases hl
 · rename_i hu
   have hne:=isUnd_ne (by simpa using hu)
   split at hl
   · cases hl
   · rename_i d hni hd
     cases hl
     refine ⟨.iface t y,?_,.inr ⟨rfl,?_⟩⟩
     · simp only [Instr.makeInterface,Sem.run_bind,run_underlying' hd,Result.andThen_ok,Sem.run_pure]
     · rcases r with r | ⟨r1,r2⟩
       · exact absurd r hne
       · simp only [relC,Value.cells];exact ⟨y,r1,r2,rfl⟩
   · cases hl
def aExtract (x:V) (i:Nat):Option V :=
 match x with
 | .tup l=>l[i]?
 | _=>none
theorem rel_tup {l:List V} {x:Value} (hx:rel P ι (.tup l) x):∃ vs,x=.tuple vs.toArray∧relL P ι l vs:=by
 obtain ⟨h,_⟩:=rel_leaf_inv (by simp) (by simp) hx
 simp only [relC,List.cons.injEq,and_true] at h
 obtain ⟨vs,h1,h2⟩:=h
 exact ⟨vs,h2,h1⟩
theorem aExtract_ok {x v:V} {i:Nat} {y:Value} (hl:aExtract x i=some v) (r:rel P ι x y) (W:World):∃ z,(Instr.extract y i).run P W=.ok z W∧rel P ι v z:=by
 unfold aExtract at hl
 split at hl
 · obtain ⟨vs,rfl,hvs⟩:=rel_tup r
   obtain ⟨z,h1,h2⟩:=relL_get hvs i hl
   refine ⟨z,?_,h2⟩
   simp [Instr.extract,h1]
 · cases hl
def aMinMax (mx:Bool):List V→Option V
 | [.int k a,.int k' b]=>if k=k' then some (.int k (if mx then (if b > a then b else a) else (if b < a then b else a))) else none
 | _=>none
theorem aMin_ok {l:List V} {v:V} {ys:List Value} (h:aMinMax false l=some v) (r:relL P ι l ys) (at_:Array TypeId) (ty:TypeId) (W:World):∃ z,(Builtin.min_ at_ ty ys.toArray).run P W=.ok z W∧rel P ι v z:=by
 unfold aMinMax at h
 split at h
 · split at h
   · rename_i hk
     cases h
     subst hk
     obtain ⟨y1,ys1,h1,h2,rfl⟩:=relL_cons_iff.1 r
     obtain ⟨y2,ys2,h3,h4,rfl⟩:=relL_cons_iff.1 h2
     simp only [relL] at h4;subst h4
     rw [rel_int h1,rel_int h3]
     refine ⟨.int _ _,?_,mk_int _ _⟩
     simp [Builtin.min_,Builtin.min2]
   · cases h
 · cases h
theorem aMax_ok {l:List V} {v:V} {ys:List Value} (h:aMinMax true l=some v) (r:relL P ι l ys) (at_:Array TypeId) (ty:TypeId) (W:World):∃ z,(Builtin.max_ at_ ty ys.toArray).run P W=.ok z W∧rel P ι v z:=by
 unfold aMinMax at h
 split at h
 · split at h
   · rename_i hk
     cases h
     subst hk
     obtain ⟨y1,ys1,h1,h2,rfl⟩:=relL_cons_iff.1 r
     obtain ⟨y2,ys2,h3,h4,rfl⟩:=relL_cons_iff.1 h2
     simp only [relL] at h4;subst h4
     rw [rel_int h1,rel_int h3]
     refine ⟨.int _ _,?_,mk_int _ _⟩
     simp [Builtin.max_,Builtin.max2]
   · cases h
 · cases h
def aBuildSlice (P:Program) (h:AH) (t:TypeId) (len:Nat) (parts:List (Nat × V)):Option (V × AH) :=
 match ul P t with
 | some (.slice e)=>match zeroV P e with
   | some z=>if P.cellsOf e≠0∧len * P.cellsOf e≤16777216 then match putParts P (fun _=>some e) (List.replicate len z) parts with
     | some l=>some (.slc (some (⟨h.next,.row e,[]⟩,0)) len,h.make (.cells true (.row e) (.agg l)))
     | none=>none
     else none
   | none=>none
 | _=>none
theorem aBuildSlice_ok (K:Ok P) (F:Fits P B ι h W) {t:TypeId} {len:Nat} {ps:List (Nat × V)} {xs:List (Nat × Value)} {v:V} {h':AH} (hl:aBuildSlice P h t len ps=some (v,h')) (hx:relP P ι ps xs) :
   Does P B ι W (Instr.buildSlice t len xs.toArray) v h':=by
 unfold aBuildSlice at hl
 split at hl
 · rename_i e hu
   split at hl
   · rename_i zv hz
     split at hl
     · rename_i hc
       obtain ⟨hc0,hc1⟩:=hc
       split at hl
       · rename_i l hp
         simp only [Option.some.injEq,Prod.mk.injEq] at hl
         obtain ⟨rfl,rfl⟩:=hl
         obtain ⟨zz,z1,z2,z3,z4⟩:=run_zeroValue' K hz W
         obtain ⟨d,hd⟩:=shape_ul z4
         have hzs:zz.cells.size=P.cellsOf e:=by have:=size_ok K.lay _ _ _ z4 (z3 ι);simpa using this
         have hcells:((Array.range (len * P.cellsOf e)).map (fun i=>zz.cells[i % zz.cells.size]!))=((List.replicate len zz.cells.toList).flatten).toArray:=by
           apply Array.ext'
           simp only [Array.toList_map,Array.toList_range]
           rw [← hzs]
           exact modRep zz.cells (by omega) _
         obtain ⟨cs',g1,g2,g3,g4⟩:=putParts_array (place:=fun i=>some (i * P.cellsOf e,P.cellsOf e)) K.lay (fun i=>rfl) ps xs _ l _ hx hp (shapesAll_rep z4 len) (relCs_rep (z3 ι) len)
         obtain ⟨ι',L,r1,r2,r3,r4,r5⟩:=newRow_ok (rest:=[]) (e:=e) (ty:=.row e) F (v:=.agg l) (by simpa only [shapeB] using g3) (cs:=cs') (by simpa only [relC] using g4) rfl
         simp only [List.append_nil] at r1 r3
         have hlen:cs'.length=len * P.cellsOf e:=by
           have:=sizesAll_ok K.lay _ e _ g3 g4
           rw [g2] at this;simpa using this
         refine ⟨ι',_,.slice (some ⟨W.heap.size,0,none⟩) len len,?_,r2,r3,?_⟩
         · have e2:¬ (len * P.cellsOf e > 2 ^ 24):=by omega
           simp only [Instr.buildSlice,Sem.run_bind,run_underlying' hu,Result.andThen_ok,run_sizeOf' hd,e2,if_false,Sem.run_pure]
           by_cases hn0:len * P.cellsOf e=0
           · have hnn:len=0:=by
               rcases Nat.mul_eq_zero.1 hn0 with h | h
               · exact h
               · exact absurd h hc0
             subst hnn
             simp only [List.replicate_zero,List.flatten_nil] at g1
             simp only [Nat.zero_mul,if_true,Sem.run_pure,Result.andThen_ok,show Array.range 0=#[] from rfl,Array.map_empty]
             have g1':Instr.fill (fun i=>some (i * P.cellsOf e,P.cellsOf e)) #[] xs=some cs'.toArray:=g1
             simp only [g1',Sem.run_bind,r1,Result.andThen_ok,Sem.run_pure]
           · rw [if_neg hn0]
             simp only [Sem.run_bind,z1,Sem.run_pure,Result.andThen_ok,hcells,g1,r1]
         · subst r5
           exact mk_row r4 rfl (Nat.le_refl _) rfl (by simp [hlen])
       · cases hl
     · cases hl
   · cases hl
 · cases hl
end Go.Ab
namespace Go.Ab
open Go Go.RowKit
variable {P:Program} {ι:Names} {W:World} {B:Base} {h:AH}
def still (x:Option V) (h:AH):Option (V × AH) :=
 match x with
 | some v=>some (v,h)
 | none=>none
def hole:V:=.tup []
def quietly (x:Option AH):Option (V × AH) :=
 match x with
 | some h=>some (hole,h)
 | none=>none
def aBuiltin (P:Program) (h:AH) (b:Builtin) (ts:List TypeId) (xs:List V):Option (V × AH) :=
 match b,ts,xs with
 | .len,[t],[x]=>match ul P t with
   | some (.map _ _)=>still (aMapLen h x) h
   | _=>still (aLen P t x) h
 | .append,[t,xt],[s,x]=>match ul P t with
   | some (.slice e)=>if notInt P xt && (ul P e).isSome then aAppend P h e s x else none
   | _=>none
 | .copy,[t,_],[d,x]=>match ul P t with
   | some (.slice e)=>if (ul P e).isSome then aCopy P h e d x else none
   | _=>none
 | .delete,[t,_],[m,k]=>quietly (aMapDel P h t m k)
 | .clear,[t],[d]=>match ul P t with
   | some (.slice e)=>quietly (aClear P h e d)
   | _=>none
 | .min,_,xs=>still (aMinMax false xs) h
 | .max,_,xs=>still (aMinMax true xs) h
 | _,_,_=>none
def aPick (c a b:V) (h:AH):Option (V × AH) :=
 match c with
 | .bool t=>some (if t then a else b,h)
 | _=>none
def aLoadV (P:Program) (h:AH) (t:TypeId) (a:V):Option (V × AH) :=
 match a with
 | .ptr (some p)=>still (aLoad P h p t) h
 | _=>none
def aStoreV (P:Program) (h:AH) (t:TypeId) (a x:V):Option (V × AH) :=
 match a with
 | .ptr (some p)=>quietly (aStore P h p t x)
 | _=>none
def aNil (x:V) (h:AH):Option (V × AH) :=
 match x with
 | .ptr (some p)=>some (.ptr (some p),h)
 | .ifc t v=>some (.ifc t v,h)
 | .fn (.func f) a b=>some (.fn (.func f) a b,h)
 | _=>none
def aAssert (P:Program) (t:TypeId) (x:V):Option V :=
 match ul P t with
 | some (.interface _)=>none
 | some _=>match x with
   | .nilIfc=>match zeroV P t with
     | some z=>some (.tup [z,.bool false])
     | none=>none
   | .ifc u v=>if u=t then some (.tup [v,.bool true]) else match zeroV P t with
     | some z=>some (.tup [z,.bool false])
     | none=>none
   | _=>none
 | none=>none
theorem aAssert_ok (K:Ok P) {t xt:TypeId} {x v:V} {y:Value} (hl:aAssert P t x=some v) (r:rel P ι x y) (W:World):∃ z,(Instr.typeAssert y xt t true).run P W=.ok z W∧rel P ι v z:=by
 unfold aAssert at hl
 split at hl
 · cases hl
 · rename_i d hni hd
   have zero:∀ z,zeroV P t=some z→∃ w,(zeroValue t).run P W=.ok w W∧rel P ι z w:=by
     intro z hz
     obtain ⟨w,h1,h2,h3,_⟩:=run_zeroValue' K hz W
     exact ⟨w,h1,.inr ⟨h2,h3 ι⟩⟩
   split at hl
   · split at hl
     · rename_i z hz
       cases hl
       obtain ⟨w,h1,h2⟩:=zero z hz
       rw [rel_nilIfc r]
       refine ⟨.tuple #[w,.bool false],?_,mk_tup2 h2 (mk_bool _)⟩
       simp only [Instr.typeAssert,Sem.run_bind,run_underlying' hd,Result.andThen_ok]
       cases d <;> first | exact absurd rfl (hni _) | simp [h1]
     · cases hl
   · rename_i u w
     obtain ⟨y',hy,h2,_⟩:=rel_ifc r
     split at hl
     · rename_i hut
       cases hl
       rw [hy]
       refine ⟨.tuple #[y',.bool true],?_,mk_tup2 h2 (mk_bool _)⟩
       simp only [Instr.typeAssert,Sem.run_bind,run_underlying' hd,Result.andThen_ok]
       cases d <;> first | exact absurd rfl (hni _) | simp [hut]
     · rename_i hut
       split at hl
       · rename_i z hz
         cases hl
         obtain ⟨w',h1,h3⟩:=zero z hz
         rw [hy]
         refine ⟨.tuple #[w',.bool false],?_,mk_tup2 h3 (mk_bool _)⟩
         simp only [Instr.typeAssert,Sem.run_bind,run_underlying' hd,Result.andThen_ok]
         cases d <;> first | exact absurd rfl (hni _) | simp [hut,h1]
       · cases hl
   · cases hl
 · cases hl
def aop (P:Program) (ρ:Operand→V) (h:AH) (o:Op):Option (V × AH) :=
 match o with
 | .move x=>some (ρ x,h)
 | .assign x=>some (ρ x,h)
 | .pick c a b=>aPick (ρ c) (ρ a) (ρ b) h
 | .alloc e=>aAlloc P h e
 | .box e x=>aNew P h e (ρ x)
 | .build t ps=>still (aBuild P t (ps.toList.map fun p=>(p.1,ρ p.2))) h
 | .buildSlice t n ps=>aBuildSlice P h t n (ps.toList.map fun p=>(p.1,ρ p.2))
 | .load t a=>aLoadV P h t (ρ a)
 | .store t a x=>aStoreV P h t (ρ a) (ρ x)
 | .nilCheck x=>aNil (ρ x) h
 | .binOp op t x y _=>still (aBin P op t (ρ x) (ρ y) (Region.isConst x || Region.isConst y)) h
 | .unOp op _ x=>still (aUn op (ρ x)) h
 | .convert s d x=>still (aConv P h s d (ρ x)) h
 | .makeInterface t x=>still (aIface P t (ρ x)) h
 | .makeFunc fn a b=>some (.fn fn (a.toList.map ρ) (b.toList.map ρ),h)
 | .makeMap t none=>aMakeMap P h t
 | .makeSlice t l c=>aMakeSlice P h t (ρ l) (ρ c)
 | .slice t x lo hi none=>still (aSlice P h t (ρ x) (lo.map ρ) (hi.map ρ)) h
 | .fieldAddr s x f=>still (aFieldAddr P s (ρ x) f) h
 | .field t x f=>still (aField P t (ρ x) f) h
 | .indexAddr t x i=>still (aIndexAddr P t (ρ x) (ρ i)) h
 | .index t x i=>still (aIndex P t (ρ x) (ρ i)) h
 | .lookup t x k c=>still (aLookup P h t (ρ x) (ρ k) c) h
 | .mapUpdate t m k x=>quietly (aMapSet P h t (ρ m) (ρ k) (ρ x))
 | .insert t m k x=>quietly (aMapSet P h t (ρ m) (ρ k) (ρ x))
 | .extract x i=>still (aExtract (ρ x) i) h
 | .typeAssert x _ t true=>still (aAssert P t (ρ x)) h
 | .call { callee:=.builtin b,args:=args,argTypes:=ts }=>aBuiltin P h b ts.toList (args.toList.map ρ)
 | _=>none
theorem still_some {x:Option V} {v:V} {h h':AH} (e:still x h=some (v,h')):x=some v∧h'=h:=by
 unfold still at e;split at e
 · cases e;exact ⟨rfl,rfl⟩
 · cases e
theorem quietly_some {x:Option AH} {v:V} {h':AH} (e:quietly x=some (v,h')):x=some h'∧v=hole:=by
 unfold quietly at e;split at e
 · cases e;exact ⟨rfl,rfl⟩
 · cases e
theorem rel_hole:rel P ι hole undef:=.inr ⟨rfl,by simp only [hole,relC,Value.cells,undef];exact ⟨[],by simp [relL],rfl⟩⟩
def DoesN (P:Program) (B:Base) (ι:Names) (W:World) (s:Sem Next) (v:V) (h':AH):Prop :=
 ∃ ι' W' nx,s.run P W=.ok nx W'∧Names.le ι ι'∧Fits P B ι' h' W'∧((∃ y,nx=.value y∧rel P ι' v y)∨(nx=.skip∧v=hole))
theorem DoesN.of {s:Sem Value} {v:V} {h':AH} (d:Does P B ι W s v h'):DoesN P B ι W (do pure (.value (← s))) v h':=by
 obtain ⟨ι',W',x,h1,h2,h3,h4⟩:=d
 exact ⟨ι',W',.value x,by simp [h1],h2,h3,.inl ⟨x,rfl,h4⟩⟩
theorem DoesN.ofU {s:Sem Unit} {h':AH} (d:DoesU P B ι W s h'):DoesN P B ι W (do s;pure .skip) hole h':=by
 obtain ⟨ι',W',h1,h2,h3⟩:=d
 exact ⟨ι',W',.skip,by simp [h1],h2,h3,.inr ⟨rfl,rfl⟩⟩
theorem DoesN.still (F:Fits P B ι h W) {s:Sem Value} {v:V} (d:∃ z,s.run P W=.ok z W∧rel P ι v z):DoesN P B ι W (do pure (.value (← s))) v h:=by
 obtain ⟨z,h1,h2⟩:=d
 exact .of (Does.still F h1 h2)
theorem relL_map {ρ:Operand→V} {ρ':Operand→Value} (hρ:∀ x,rel P ι (ρ x) (ρ' x)):∀ l:List Operand,relL P ι (l.map ρ) (l.map ρ')
 | []=>relL_nil
 | x :: l=>relL_cons (hρ x) (relL_map hρ l)
theorem relP_map {ρ:Operand→V} {ρ':Operand→Value} (hρ:∀ x,rel P ι (ρ x) (ρ' x)):∀ l:List (Nat × Operand),relP P ι (l.map fun p=>(p.1,ρ p.2)) (l.map fun p=>(p.1,ρ' p.2))
 | []=>by simp [relP]
 | (i,x) :: l=>by simp only [List.map_cons,relP];exact ⟨_,_,rfl,hρ x,relP_map hρ l⟩
theorem relO_map {ρ:Operand→V} {ρ':Operand→Value} (hρ:∀ x,rel P ι (ρ x) (ρ' x)) (x:Option Operand):relO P ι (x.map ρ) (x.map ρ'):=by
 cases x with
 | none=>trivial
 | some x=>exact hρ x
theorem aBuiltin_ok (K:Ok P) (F:Fits P B ι h W) {b:Builtin} {ts:Array TypeId} {ty:TypeId} {cs:Array Bool} {xs:List V} {ys:List Value} {v:V} {h':AH} (hl:aBuiltin P h b ts.toList xs=some (v,h')) (r:relL P ι xs ys) :
   DoesN P B ι W (builtin b ts ty cs ys.toArray) v h':=by
 unfold aBuiltin at hl
 split at hl
 · rename_i t x hts
   obtain ⟨y,ys',h1,h2,rfl⟩:=relL_cons_iff.1 r
   simp only [relL] at h2;subst h2
   obtain rfl:ts=#[t]:=by apply Array.ext';simpa using hts
   split at hl
   · rename_i kt et hu
     obtain ⟨e1,rfl⟩:=still_some hl
     exact DoesN.still F (aMapLen_ok F hu e1 h1)
   · obtain ⟨e1,rfl⟩:=still_some hl
     exact DoesN.still F (aLen_ok e1 h1 W)
 · rename_i t xt s x hts
   obtain ⟨y,ys',h1,h2,rfl⟩:=relL_cons_iff.1 r
   obtain ⟨z,zs',h3,h4,rfl⟩:=relL_cons_iff.1 h2
   simp only [relL] at h4;subst h4
   obtain rfl:ts=#[t,xt]:=by apply Array.ext';simpa using hts
   split at hl
   · rename_i e hu
     split at hl
     · rename_i hc
       simp only [Bool.and_eq_true] at hc
       exact .of (aAppend_ok K F hu hc.1 hl h1 h3 hc.2)
     · cases hl
   · cases hl
 · rename_i t xt d x hts
   obtain ⟨y,ys',h1,h2,rfl⟩:=relL_cons_iff.1 r
   obtain ⟨z,zs',h3,h4,rfl⟩:=relL_cons_iff.1 h2
   simp only [relL] at h4;subst h4
   obtain rfl:ts=#[t,xt]:=by apply Array.ext';simpa using hts
   split at hl
   · rename_i e hu
     split at hl
     · rename_i hc
       exact .of (aCopy_ok K F hu hc hl h1 h3)
     · cases hl
   · cases hl
 · rename_i t kt m k hts
   obtain ⟨y,ys',h1,h2,rfl⟩:=relL_cons_iff.1 r
   obtain ⟨z,zs',h3,h4,rfl⟩:=relL_cons_iff.1 h2
   simp only [relL] at h4;subst h4
   obtain rfl:ts=#[t,kt]:=by apply Array.ext';simpa using hts
   obtain ⟨e1,rfl⟩:=quietly_some hl
   obtain ⟨W',g1,g2⟩:=aMapDel_ok (ty:=ty) (kt0:=kt) K F e1 h1 h3
   exact .of ⟨ι,W',.tuple #[],g1,Names.le_refl _,g2,rel_hole⟩
 · rename_i t d hts
   obtain ⟨y,ys',h1,h2,rfl⟩:=relL_cons_iff.1 r
   simp only [relL] at h2;subst h2
   obtain rfl:ts=#[t]:=by apply Array.ext';simpa using hts
   split at hl
   · rename_i e hu
     obtain ⟨e1,rfl⟩:=quietly_some hl
     exact .of (aClear_ok K F hu e1 h1)
   · cases hl
 · obtain ⟨e1,rfl⟩:=still_some hl
   exact DoesN.still F (aMin_ok e1 r _ _ W)
 · obtain ⟨e1,rfl⟩:=still_some hl
   exact DoesN.still F (aMax_ok e1 r _ _ W)
 · cases hl
theorem aop_ok (K:Ok P) (F:Fits P B ι h W) {ρ:Operand→V} {ρ':Operand→Value} (hρ:∀ x,rel P ι (ρ x) (ρ' x)) {o:Oper} {v:V} {h':AH} (hl:aop P ρ h o.op=some (v,h')) :
   DoesN P B ι W (execOp ρ' o) v h':=by
 obtain ⟨dst,op,type,pos,after,guard⟩:=o
 unfold aop at hl
 simp only at hl
 split at hl <;> first | (cases hl;done) | skip
 · cases hl;exact ⟨ι,W,_,rfl,Names.le_refl _,F,.inl ⟨_,rfl,hρ _⟩⟩
 · cases hl;exact ⟨ι,W,_,rfl,Names.le_refl _,F,.inl ⟨_,rfl,hρ _⟩⟩
 · rename_i c a b
   unfold aPick at hl
   split at hl
   · rename_i t hc
     cases hl
     have hb:=rel_bool (hc▸hρ c)
     refine ⟨ι,W,.value (if t then ρ' a else ρ' b),?_,Names.le_refl _,F,.inl ⟨_,rfl,?_⟩⟩
     · simp only [execOp,hb,asBool,Sem.run_bind,Sem.run_pure,Result.andThen_ok]
     · cases t <;> exact hρ _
   · cases hl
 · exact .of (aAlloc_ok K F hl)
 · rename_i e x
   exact .of (aNew_ok K F hl (hρ x))
 · rename_i t ps
   obtain ⟨e1,rfl⟩:=still_some hl
   have:=aBuild_ok K e1 (relP_map hρ ps.toList) W
   refine DoesN.still F ?_
   obtain ⟨z,z1,z2⟩:=this
   refine ⟨z,?_,z2⟩
   rw [← z1]
   congr 2
   apply Array.ext';simp
 · rename_i t n ps
   have:=aBuildSlice_ok K F hl (relP_map hρ ps.toList)
   refine .of ?_
   have e:(ps.map fun x=>(x.1,ρ' x.2))=(ps.toList.map fun p=>(p.1,ρ' p.2)).toArray:=by apply Array.ext';simp
   simp only [e]
   exact this
 · rename_i t a
   unfold aLoadV at hl
   split at hl
   · rename_i p hp
     obtain ⟨e1,rfl⟩:=still_some hl
     obtain ⟨x,hx1,hx2⟩:=rel_ptr (hp▸hρ a)
     refine .of ?_
     have:=aLoad_ok K F e1 hx2
     obtain ⟨ι',W',y,g1,g2⟩:=this
     exact ⟨ι',W',y,by simp only [Instr.loadAt,hx1,Instr.sureAddr,Sem.run_bind,Sem.run_pure,Result.andThen_ok];exact g1,g2⟩
   · cases hl
 · rename_i t a x
   unfold aStoreV at hl
   split at hl
   · rename_i p hp
     obtain ⟨e1,rfl⟩:=quietly_some hl
     obtain ⟨y,hy1,hy2⟩:=rel_ptr (hp▸hρ a)
     refine .ofU ?_
     obtain ⟨ι',W',g1,g2⟩:=aStore_ok K F e1 hy2 (hρ x)
     exact ⟨ι',W',by simp only [Instr.storeAt,hy1,Instr.sureAddr,Sem.run_bind,Sem.run_pure,Result.andThen_ok];exact g1,g2⟩
   · cases hl
 · rename_i x
   have hx:=hρ x
   unfold aNil at hl
   split at hl <;> first | (cases hl;done) | skip
   · rename_i p hp
     cases hl
     rw [hp] at hx
     obtain ⟨y,hy,_⟩:=rel_ptr hx
     refine ⟨ι,W,.value (ρ' x),?_,Names.le_refl _,F,.inl ⟨_,rfl,hx⟩⟩
     simp only [execOp,hy,Sem.run_pure]
   · rename_i t v' hp
     cases hl
     rw [hp] at hx
     obtain ⟨y,hy,_⟩:=rel_ifc hx
     refine ⟨ι,W,.value (ρ' x),?_,Names.le_refl _,F,.inl ⟨_,rfl,hx⟩⟩
     simp only [execOp,hy,Sem.run_pure]
   · rename_i f a b hp
     cases hl
     rw [hp] at hx
     obtain ⟨a',b',hy,_⟩:=rel_fn hx
     refine ⟨ι,W,.value (ρ' x),?_,Names.le_refl _,F,.inl ⟨_,rfl,hx⟩⟩
     simp only [execOp,hy,Sem.run_pure]
 · rename_i op t x y yt
   obtain ⟨e1,rfl⟩:=still_some hl
   exact DoesN.still F (aBin_ok K.lay e1 (hρ x) (hρ y) W)
 · rename_i op t x
   obtain ⟨e1,rfl⟩:=still_some hl
   exact DoesN.still F (aUn_ok e1 (hρ x) W)
 · rename_i s d x
   obtain ⟨e1,rfl⟩:=still_some hl
   exact DoesN.still F (aConv_ok K F e1 (hρ x))
 · rename_i t x
   obtain ⟨e1,rfl⟩:=still_some hl
   exact DoesN.still F (aIface_ok e1 (hρ x) W)
 · rename_i fn a b
   cases hl
   refine DoesN.still F ⟨.func fn (a.map ρ') (b.map ρ'),rfl,.inr ⟨rfl,?_⟩⟩
   simp only [relC,Value.cells]
   refine ⟨a.toList.map ρ',b.toList.map ρ',relL_map hρ _,relL_map hρ _,?_⟩
   congr 2 <;> (apply Array.ext';simp)
 · exact .of (aMakeMap_ok F hl)
 · rename_i t l c
   exact .of (aMakeSlice_ok K F hl (hρ l) (hρ c))
 · rename_i t x lo hi
   obtain ⟨e1,rfl⟩:=still_some hl
   exact DoesN.still F (aSlice_ok K F e1 (hρ x) (relO_map hρ lo) (relO_map hρ hi))
 · rename_i s x f
   obtain ⟨e1,rfl⟩:=still_some hl
   exact DoesN.still F (aFieldAddr_ok e1 (hρ x) W)
 · rename_i t x f
   obtain ⟨e1,rfl⟩:=still_some hl
   exact DoesN.still F (aField_ok K e1 (hρ x) W)
 · rename_i t x i
   obtain ⟨e1,rfl⟩:=still_some hl
   exact DoesN.still F (aIndexAddr_ok e1 (hρ x) (hρ i) W)
 · rename_i t x i
   obtain ⟨e1,rfl⟩:=still_some hl
   exact DoesN.still F (aIndex_ok K e1 (hρ x) (hρ i) W)
 · rename_i t x k c
   obtain ⟨e1,rfl⟩:=still_some hl
   exact DoesN.still F (aLookup_ok K F e1 (hρ x) (hρ k))
 · rename_i t m k x
   obtain ⟨e1,rfl⟩:=quietly_some hl
   exact .ofU (aMapSet_ok K F e1 (hρ m) (hρ k) (hρ x))
 · rename_i t m k x
   obtain ⟨e1,rfl⟩:=quietly_some hl
   exact .ofU (aMapSet_ok K F e1 (hρ m) (hρ k) (hρ x))
 · rename_i x i
   obtain ⟨e1,rfl⟩:=still_some hl
   exact DoesN.still F (aExtract_ok e1 (hρ x) W)
 · rename_i x xt t
   obtain ⟨e1,rfl⟩:=still_some hl
   exact DoesN.still F (aAssert_ok K e1 (hρ x) W)
 · rename_i b args ts
   have:=aBuiltin_ok (ty:=type) (cs:=args.map fun | .const _=>true | _=>false) K F hl (relL_map hρ args.toList)
   obtain ⟨ι',W',nx,g1,g2⟩:=this
   refine ⟨ι',W',nx,?_,g2⟩
   rw [← g1]
   have e:args.map ρ'=(args.toList.map ρ').toArray:=by apply Array.ext';simp
   simp only [execOp,resolve,Sem.run_bind,Sem.run_pure,Result.andThen_ok,invoke,e]
   rfl
end Go.Ab
namespace Go.Ab
open Go Go.RowKit
variable {P:Program} {ι:Names} {W:World} {B:Base} {h:AH}
theorem Fits.turn (F:Fits P B ι h W) {n:Nat} {o o':AO} {L:Loc} (hm:h.m n=some o) (how:o.isOwn=true) (hL:ι n=some L) (x:Obj) (hx:objR P ι (World.putObj W L.blk x) L o') :
   Fits P B ι (h.put n o') (World.putObj W L.blk x):=by
 obtain ⟨L',hL',hobj⟩:=F.obj n _ hm
 rw [hL] at hL';cases hL'
 have hlt:=objR_blk hobj
 have hne:∀ k,k≠L.blk→(World.putObj W L.blk x).heap[k]?=W.heap[k]?:=by
   intro k hk;simp only [World.putObj];rw [Array.getElem?_setIfInBounds_ne (by omega)]
 refine ⟨?_,F.fresh,?_,?_,?_,F.os,F.tape,F.output,by simpa [World.putObj] using F.size⟩
 · intro k o2 hk
   by_cases e:k=n
   · subst e
     simp only [AH.put,if_true,Option.some.injEq] at hk
     subst hk
     exact ⟨L,hL,hx⟩
   · simp only [AH.put,if_neg e] at hk
     obtain ⟨Lk,h1,h2⟩:=F.obj k o2 hk
     refine ⟨Lk,h1,objR_keep (Names.le_refl _) ?_ h2⟩
     exact hne _ (fun e'=>F.apart n k _ _ L Lk hm hk (fun e''=>e e''.symm) how hL h1 e'.symm)
 · intro i j o1 o2 Li Lj hi hj hne hown h1 h2
   simp only [AH.put] at hi hj
   split at hi <;> split at hj
   · omega
   · rename_i e1 _;subst e1;exact F.apart i j _ _ Li Lj hm hj hne how h1 h2
   · rename_i _ e2;subst e2;exact fun e=>F.apart j i _ _ Lj Li hm hi (fun e=>hne e.symm) how h2 h1 e.symm
   · exact F.apart i j _ _ Li Lj hi hj hne hown h1 h2
 · intro i o2 Li hi hown h1
   simp only [AH.put] at hi
   split at hi
   · rename_i e;subst e;exact F.free i _ Li hm how h1
   · exact F.free i o2 Li hi hown h1
 · intro b hb
   obtain ⟨h1,h2⟩:=F.frame b hb
   have:b≠L.blk:=fun e=>F.free n _ L hm how hL (e▸hb)
   exact ⟨by rw [hne _ this,h1],by simpa [World.putObj] using h2⟩
theorem Fits.retell (F:Fits P B ι h W) {n:Nat} {o o':AO} {L:Loc} (hm:h.m n=some o) (how:o.isOwn=true) (hL:ι n=some L) (hx:objR P ι W L o'):Fits P B ι (h.put n o') W:=by
 obtain ⟨L',hL',hobj⟩:=F.obj n _ hm
 rw [hL] at hL';cases hL'
 have hlt:=objR_blk hobj
 have hself:World.putObj W L.blk W.heap[L.blk]=W:=putObj_self (by simp [hlt])
 have:=F.turn (o':=o') hm how hL W.heap[L.blk] (by rw [hself];exact hx)
 rwa [hself] at this
def itV (n:Nat):V:=.ptr (some ⟨n,.one 0,[]⟩)
theorem itV_rel {n:Nat} {b:Nat} {s:Nat} {ty:BTy} (hn:ι n=some ⟨b,0,s,ty⟩) (ht:ty=.one 0):rel P ι (itV n) (.pointer (some ⟨b,0,none⟩)) :=
 .inr ⟨rfl,by simp only [itV,relC,Value.cells];exact ⟨_,⟨⟨b,0,s,ty⟩,0,0,hn,ht,rfl,rfl⟩,rfl⟩⟩
theorem itV_inv {a:PA} {L:Loc} {x:Value} (hr:rel P ι (.ptr (some a)) x) (ha:a.p=[]) (hL:ι a.n=some L) (h0:L.off=0):x=.pointer (some ⟨L.blk,0,none⟩):=by
 obtain ⟨y,rfl,M,o,t,g1,g2,g3,rfl⟩:=rel_ptr hr
 rw [hL] at g1;cases g1
 obtain ⟨n,ty,p⟩:=a
 simp only at ha;subst ha
 cases ty with
 | one t =>
   simp only [layB,lay,Option.some.injEq,Prod.mk.injEq] at g3
   rw [← g3.1,h0]
 | row e=>simp [layB] at g3
def vcRange (P:Program) (t:TypeId) (x:V) (h:AH) (K:V→AH→Prop):Prop :=
 match x with
 | .str s=>ul P t=some .string∧K (itV h.next) (h.make (.sit s 0))
 | .map none=>(∃ kt et,ul P t=some (.map kt et))∧K (itV h.next) (h.make (.mit none 0 [] 0))
 | .map (some n)=>(∃ kt et,ul P t=some (.map kt et))∧match h.m n with
   | some (.mp kt et es)=>∀ st clock,st.length=es.length→(∀ b∈st,b < clock)→st.Nodup→K (itV h.next) ((h.put n (.mps kt et es st clock)).make (.mit (some n) clock [] clock))
   | _=>False
 | _=>False
theorem newObj_run (W:World) (o:Obj):(newObj o).run P W=.ok W.heap.size { W with heap:=W.heap.push o }:=rfl
theorem vcRange_ok (F:Fits P B ι h W) {t:TypeId} {x:V} {y:Value} {K:V→AH→Prop} (hv:vcRange P t x h K) (r:rel P ι x y) :
   ∃ v h',K v h'∧Does P B ι W (Instr.range t y) v h':=by
 unfold vcRange at hv
 split at hv
 · rename_i s
   obtain ⟨hu,hv⟩:=hv
   obtain rfl:=rel_str r
   refine ⟨_,_,hv,?_⟩
   obtain ⟨f1,f2⟩:=F.make (.sit s 0) (.stringIter ⟨s.toArray⟩ 0) ⟨W.heap.size,0,0,.one 0⟩ rfl ⟨rfl,by simp⟩
   refine ⟨_,_,.pointer (some ⟨W.heap.size,0,none⟩),?_,f1,f2,itV_rel (b:=W.heap.size) (s:=0) (ty:=.one 0) (by simp [Names.add]) rfl⟩
   simp only [Instr.range,Sem.run_bind,run_underlying' hu,Result.andThen_ok,Sem.run_pure,newObj_run]
 · obtain ⟨⟨kt,et,hu⟩,hv⟩:=hv
   obtain rfl:=rel_nilMap r
   refine ⟨_,_,hv,?_⟩
   obtain ⟨f1,f2⟩:=F.make (.mit none 0 [] 0) (.mapIter none 0 #[] 0) ⟨W.heap.size,0,0,.one 0⟩ rfl ⟨rfl,none,rfl,by simp⟩
   refine ⟨_,_,.pointer (some ⟨W.heap.size,0,none⟩),?_,f1,f2,itV_rel (b:=W.heap.size) (s:=0) (ty:=.one 0) (by simp [Names.add]) rfl⟩
   simp only [Instr.range,Sem.run_bind,run_underlying' hu,Result.andThen_ok,Sem.run_pure,newObj_run]
 · rename_i n
   obtain ⟨⟨kt0,et0,hu⟩,hv⟩:=hv
   split at hv
   · rename_i kt et es hm
     obtain ⟨L,xs,clock,hL,rfl,hb,hrm,hget,hst⟩:=map_obj F hm r
     have F1:Fits P B ι (h.put n (.mps kt et es (xs.toList.map (·.born)) clock)) W:=F.retell hm rfl hL ⟨xs,hb,hrm,hst,rfl⟩
     have k:=hv (xs.toList.map (·.born)) clock (by simp [← relM_get hrm]) (by
       intro b hb
       obtain ⟨x,hx,rfl⟩:=List.mem_map.1 hb
       exact hst.1 x hx) hst.2
     refine ⟨_,_,k,?_⟩
     obtain ⟨f1,f2⟩:=F1.make (.mit (some n) clock [] clock) (.mapIter (some L.blk) clock #[] clock) ⟨W.heap.size,0,0,.one 0⟩ rfl ⟨rfl,some L.blk,⟨L,by
       simp only [Names.add]
       rw [if_neg]
       · exact ⟨hL,trivial⟩
       · intro e
         have:=F.fresh n (by rw [e];exact Nat.le_refl _)
         rw [hL] at this;cases this⟩,by simp⟩
     refine ⟨_,_,.pointer (some ⟨W.heap.size,0,none⟩),?_,f1,f2,itV_rel (b:=W.heap.size) (s:=0) (ty:=.one 0) (by simp [Names.add,AH.put]) rfl⟩
     simp only [Instr.range,Sem.run_bind,run_underlying' hu,Result.andThen_ok,hget,Sem.run_pure,newObj_run]
   · exact hv.elim
 · exact hv.elim
def vcNextS (x:V) (h:AH) (K:V→AH→Prop):Prop :=
 match x with
 | .ptr (some a)=>a.p=[]∧match h.m a.n with
   | some (.sit s pos) =>
     (pos < s.length→K (.tup [.bool true,.int .i64 pos,.int .i32 (Utf8.decode ⟨s.toArray⟩ pos).1]) (h.put a.n (.sit s (pos + (Utf8.decode ⟨s.toArray⟩ pos).2)))) ∧
     (s.length≤pos→K (.tup [.bool false]) h)
   | _=>False
 | _=>False
theorem mk_tup1 {a:V} {x:Value} (h1:rel P ι a x):rel P ι (.tup [a]) (.tuple #[x]) :=
 .inr ⟨rfl,by simp only [relC,Value.cells];exact ⟨[x],relL_cons h1 relL_nil,rfl⟩⟩
theorem mk_tup3 {a b c:V} {x y z:Value} (h1:rel P ι a x) (h2:rel P ι b y) (h3:rel P ι c z):rel P ι (.tup [a,b,c]) (.tuple #[x,y,z]) :=
 .inr ⟨rfl,by simp only [relC,Value.cells];exact ⟨[x,y,z],relL_cons h1 (relL_cons h2 (relL_cons h3 relL_nil)),rfl⟩⟩
theorem setObj_run {b:Nat} {o o':Obj} {W:World} (hb:W.heap[b]?=some o) (hc:∀ a b c,o≠.cells a b c):(setObj b o').run P W=.ok () (World.putObj W b o'):=by
 simp only [setObj,Sem.run,hb,World.putObj]
theorem vcNextS_ok (F:Fits P B ι h W) {ty:TypeId} {x:V} {y:Value} {K:V→AH→Prop} (hv:vcNextS x h K) (r:rel P ι x y) :
   ∃ v h',K v h'∧Does P B ι W (Instr.next y true ty) v h':=by
 unfold vcNextS at hv
 split at hv
 · rename_i a
   obtain ⟨ha,hv⟩:=hv
   split at hv
   · rename_i s pos hm
     obtain ⟨L,hL,h0,hb⟩:=F.obj _ _ hm
     obtain rfl:=itV_inv r ha hL h0
     have hg:(getObj L.blk).run P W=.ok (.stringIter ⟨s.toArray⟩ pos) W:=by simp [getObj,Sem.run,hb]
     rcases Nat.lt_or_ge pos s.length with hp | hp
     · refine ⟨_,_,hv.1 hp,ι,World.putObj W L.blk (.stringIter ⟨s.toArray⟩ (pos + (Utf8.decode ⟨s.toArray⟩ pos).2)),.tuple #[.bool true,goInt pos,.int .i32 (Utf8.decode ⟨s.toArray⟩ pos).1],?_,Names.le_refl _,F.turn hm rfl hL _ ⟨h0,by simp [World.putObj,getBlk_lt hb]⟩,mk_tup3 (mk_bool _) (mk_int _ _) (mk_int _ _)⟩
       have hs:pos < (⟨s.toArray⟩:ByteArray).size:=by simpa [ByteArray.size] using hp
       simp only [Instr.next,Sem.run_bind,hg,Result.andThen_ok,hs,if_true,setObj_run hb (by simp),Sem.run_pure]
     · refine ⟨_,_,hv.2 hp,ι,W,.tuple #[.bool false],?_,Names.le_refl _,F,mk_tup1 (mk_bool _)⟩
       have hs:¬ pos < (⟨s.toArray⟩:ByteArray).size:=by simp [ByteArray.size];omega
       simp only [Instr.next,Sem.run_bind,hg,Result.andThen_ok,hs,if_false,Sem.run_pure]
   · exact hv.elim
 · exact hv.elim
def vcNextM (x:V) (h:AH) (K:V→AH→Prop):Prop :=
 match x with
 | .ptr (some a)=>a.p=[]∧match h.m a.n with
   | some (.mit none _ _ _)=>K (.tup [.bool false]) h
   | some (.mit (some m) since seen last)=>match h.m m with
     | some (.mps kt et es st clock)=>since=clock∧last=clock ∧
       (∀ (i:Nat) (k v:V) (b:Nat),es[i]?=some (k,v)→st[i]?=some b→b ∉ seen→K (.tup [.bool true,k,v]) (h.put a.n (.mit (some m) clock (seen++[b]) clock))) ∧
       ((∀ b∈st,b∈seen)→K (.tup [.bool false]) (h.put m (.mp kt et es)))
     | _=>False
   | _=>False
 | _=>False
theorem relM_at {kt et:TypeId}:∀ {es:List (V × V)} {xs:List MapEntry} {i:Nat} {e:MapEntry},relM P ι kt et es xs→xs[i]?=some e→∃ k v,es[i]?=some (k,v)∧rel P ι k e.key∧rel P ι v e.val
 | [],xs,i,e,h,k=>by simp only [relM] at h;subst h;simp at k
 | (k,v) :: es,xs,i,e,h,g=>by
   simp only [relM] at h
   obtain ⟨e0,rest,rfl,h1,h2,h3⟩:=h
   cases i with
   | zero=>simp at g;subst g;exact ⟨k,v,rfl,h1.1,h2.1⟩
   | succ i=>obtain ⟨k',v',a,b⟩:=relM_at h3 (by simpa using g);exact ⟨k',v',by simpa using a,b⟩
theorem vcNextM_ok (F:Fits P B ι h W) {ty:TypeId} {x:V} {y:Value} {K:V→AH→Prop} (hv:vcNextM x h K) (r:rel P ι x y) :
   ∃ v h',K v h'∧Does P B ι W (Instr.next y false ty) v h':=by
 unfold vcNextM at hv
 split at hv
 · rename_i a
   obtain ⟨ha,hv⟩:=hv
   split at hv
   · rename_i s1 s2 s3 hm
     obtain ⟨L,hL,h0,mb,hmb,hb⟩:=F.obj _ _ hm
     obtain rfl:=itV_inv r ha hL h0
     simp only at hmb
     subst hmb
     have hg:(getObj L.blk).run P W=.ok (.mapIter none s1 s2.toArray s3) W:=by simp [getObj,Sem.run,hb]
     exact ⟨_,_,hv,ι,W,.tuple #[.bool false],by simp only [Instr.next,Sem.run_bind,hg,Result.andThen_ok,Sem.run_pure],Names.le_refl _,F,mk_tup1 (mk_bool _)⟩
   · rename_i m since seen last hm
     split at hv
     · rename_i kt et es st clock hmm
       obtain ⟨rfl,rfl,hv1,hv2⟩:=hv
       obtain ⟨L,hL,h0,mb,⟨M,hM,rfl⟩,hb⟩:=F.obj _ _ hm
       obtain ⟨M',hM',xs,hbm,hrm,hst,rfl⟩:=F.obj _ _ hmm
       rw [hM] at hM';cases hM'
       obtain rfl:=itV_inv r ha hL h0
       have hg:(getObj L.blk).run P W=.ok (.mapIter (some M.blk) last seen.toArray last) W:=by simp [getObj,Sem.run,hb]
       have hgm:(getObj M.blk).run P W=.ok (.map xs last) W:=by simp [getObj,Sem.run,hbm]
       have hall:(!seen.toArray.isEmpty && !xs.isEmpty && xs.all (·.born ≥ last))=false:=by
         cases hx:xs.toList with
         | nil =>
           have:xs=#[]:=by apply Array.ext';simpa using hx
           subst this;simp
         | cons x l =>
           have hlt:=hst.1 x (by rw [hx];simp)
           have:xs.all (·.born ≥ last)=false:=by
             rw [Array.all_eq_false']
             exact ⟨x,by rw [← Array.mem_toList_iff,hx];simp,by simp;omega⟩
           rw [this];simp
       have hdrop:(({ W with drawn:=W.drawn }:World))=W:=rfl
       -- the candidates
       obtain ⟨left,hleft⟩:∃ left,left=xs.filter fun e=>!seen.toArray.contains e.born:=⟨_,rfl⟩
       have hmemL:∀ e∈left.toList,e∈xs.toList∧e.born ∉ seen:=by
         intro e he
         rw [hleft,Array.toList_filter,List.mem_filter] at he
         exact ⟨he.1,by simpa using he.2⟩
       have hold:left.filter (·.born < last)=left:=by
         apply Array.ext'
         rw [Array.toList_filter,List.filter_eq_self]
         intro e he
         simpa using hst.1 e (hmemL e he).1
       have hnew:left.filter (·.born ≥ last)=#[]:=by
         apply Array.ext'
         rw [Array.toList_filter]
         rw [List.filter_eq_nil_iff]
         intro e he
         have:=hst.1 e (hmemL e he).1
         simp;omega
       by_cases hemp:left=#[]
       · have hseen:∀ b∈xs.toList.map (·.born),b∈seen:=by
           intro b hbb
           obtain ⟨x,hx,rfl⟩:=List.mem_map.1 hbb
           by_cases hc:x.born∈seen
           · exact hc
           · exfalso
             have:x∈left.toList:=by rw [hleft,Array.toList_filter,List.mem_filter];exact ⟨hx,by simpa using hc⟩
             rw [hemp] at this;simp at this
         refine ⟨_,_,hv2 hseen,ι,W,.tuple #[.bool false],?_,Names.le_refl _,F.retell hmm rfl hM ⟨xs,_,hbm,hrm,hst⟩,mk_tup1 (mk_bool _)⟩
         have hcc:((if (#[]:Array MapEntry).isEmpty then #[none] else #[])++((#[]:Array MapEntry)++#[]).map some:Array (Option MapEntry))=#[none]:=by simp
         have hch:(choose (.mapNext (#[none]:Array (Option MapEntry)).size)).run P W=.ok 0 W:=by
           rw [run_choose];simp [Question.forced]
         simp only [Instr.next,Sem.run_bind,hg,Result.andThen_ok,hgm,hall,Bool.false_eq_true,if_false,← hleft,hemp,Array.filter_empty,hcc,hch]
         simp
       · have hne:left.isEmpty=false:=by
           cases he:left.isEmpty with
           | false=>rfl
           | true=>exact absurd (Array.isEmpty_iff.1 he) hemp
         have hcand:(if left.isEmpty then #[none] else #[])++(left++#[]).map some=left.map some:=by rw [hne];simp
         have fin:∀ (c:Nat) (W2:World),W2={ W with drawn:=W2.drawn }→c < left.size→∃ v h',K v h'∧∃ ι' W' x,
             (match (left.map some)[c]? with
               | some (some e)=>do
                 setObj L.blk (.mapIter (some M.blk) last (seen.toArray.push e.born) last)
                 pure (.tuple #[.bool true,e.key,e.val])
               | some none=>pure (.tuple #[.bool false])
               | none=>stuck "Next: no such candidate":Sem Value).run P W2=.ok x W'∧Names.le ι ι'∧Fits P B ι' h' W'∧rel P ι' v x:=by
           intro c W2 hW2 hc
           have hce:left[c]?=some left[c]:=by simp [hc]
           have hin:=hmemL left[c] (by simp)
           obtain ⟨i,hi⟩:=List.getElem?_of_mem hin.1
           obtain ⟨k,v,he,hk,hvv⟩:=relM_at hrm hi
           refine ⟨_,_,hv1 i k v left[c].born he (by simp [List.getElem?_map,hi]) hin.2,ι,World.putObj W2 L.blk (.mapIter (some M.blk) last (seen.toArray.push left[c].born) last),.tuple #[.bool true,left[c].key,left[c].val],?_,Names.le_refl _,?_,mk_tup3 (mk_bool _) hk hvv⟩
           · have hb2:W2.heap[L.blk]?=some (.mapIter (some M.blk) last seen.toArray last):=by rw [hW2];exact hb
             simp only [Array.getElem?_map,hce,Option.map_some,Sem.run_bind,setObj_run hb2 (by simp),Result.andThen_ok,Sem.run_pure]
           · rw [hW2,putObj_drawn]
             exact (F.turn (o':=.mit (some m) last (seen++[left[c].born]) last) hm rfl hL (.mapIter (some M.blk) last (seen.toArray.push left[c].born) last) ⟨h0,some M.blk,⟨M,hM,rfl⟩,by simp [World.putObj,getBlk_lt hb]⟩).drew _
         have hsz:0 < left.size:=Array.size_pos_iff.2 hemp
         have hq:∃ c dn,(choose (.mapNext left.size)).run P W=.ok c { W with drawn:=dn }∧c < left.size:=by
           rw [run_choose]
           split
           · exact ⟨0,W.drawn,rfl,hsz⟩
           · exact ⟨_,_,rfl,Nat.mod_lt _ hsz⟩
         obtain ⟨c,dn,hq1,hq2⟩:=hq
         obtain ⟨v,h',hk,ι',W',x,g1,g2,g3,g4⟩:=fin c { W with drawn:=dn } rfl hq2
         refine ⟨v,h',hk,ι',W',x,?_,g2,g3,g4⟩
         simp only [Instr.next,Sem.run_bind,hg,Result.andThen_ok,hgm,hall,Bool.false_eq_true,if_false,← hleft,hold,hnew,hcand,Array.size_map,hq1]
         exact g1
     · exact hv.elim
   · exact hv.elim
 · exact hv.elim
def vcEntry (x:V) (h:AH) (K:V→AH→Prop):Prop :=
 match x with
 | .ptr (some a)=>a.p=[]∧match h.m a.n with
   | some (.mit (some m) _ seen last)=>match h.m m with
     | some (.mps _ _ es st clock)=>last=clock∧∃ (i:Nat) (b:Nat) (k v:V),seen.getLast?=some b∧st[i]?=some b∧es[i]?=some (k,v)∧K (.tup [k,v]) h
     | _=>False
   | _=>False
 | _=>False
theorem vcEntry_ok (F:Fits P B ι h W) {x:V} {y:Value} {K:V→AH→Prop} (hv:vcEntry x h K) (r:rel P ι x y) :
   ∃ v h',K v h'∧Does P B ι W (Instr.entry y) v h':=by
 unfold vcEntry at hv
 split at hv
 · rename_i a
   obtain ⟨ha,hv⟩:=hv
   split at hv
   · rename_i m since seen last hm
     split at hv
     · rename_i kt et es st clock hmm
       obtain ⟨rfl,i,b,k,v,hs,hi,he,hk⟩:=hv
       obtain ⟨L,hL,h0,mb,⟨M,hM,rfl⟩,hb⟩:=F.obj _ _ hm
       obtain ⟨M',hM',xs,hbm,hrm,hst,rfl⟩:=F.obj _ _ hmm
       rw [hM] at hM';cases hM'
       obtain rfl:=itV_inv r ha hL h0
       have hg:(getObj L.blk).run P W=.ok (.mapIter (some M.blk) since seen.toArray last) W:=by simp [getObj,Sem.run,hb]
       have hgm:(getObj M.blk).run P W=.ok (.map xs last) W:=by simp [getObj,Sem.run,hbm]
       obtain ⟨e,hxe,hbe⟩:∃ e,xs.toList[i]?=some e∧e.born=b:=by
         rw [List.getElem?_map] at hi
         cases hx:xs.toList[i]? with
         | none=>rw [hx] at hi;cases hi
         | some e=>rw [hx] at hi;simp at hi;exact ⟨e,rfl,hi⟩
       obtain ⟨k',v',h1,h2,h3⟩:=relM_at hrm hxe
       rw [he] at h1;cases h1
       have hfind:xs.find? (·.born == b)=some e:=by
         rw [← Array.find?_toList]
         have hin:e∈xs.toList:=List.mem_of_getElem? hxe
         cases hf:xs.toList.find? (·.born == b) with
         | none =>
           rw [List.find?_eq_none] at hf
           exact absurd (by simpa using hbe) (hf e hin)
         | some e2 =>
           have hb2:e2.born=b:=by simpa using List.find?_some hf
           have hin2:=List.mem_of_find?_eq_some hf
           have hnd:=hst.2
           obtain ⟨j,hj⟩:=List.getElem?_of_mem hin2
           have hij:i=j:=by
             have a1:(xs.toList.map (·.born))[i]?=some b:=by simp [List.getElem?_map,hxe,hbe]
             have a2:(xs.toList.map (·.born))[j]?=some b:=by simp [List.getElem?_map,hj,hb2]
             have l1:i < (xs.toList.map (·.born)).length:=(List.getElem?_eq_some_iff.1 a1).1
             exact (List.getElem?_inj l1 hnd).1 (a1.trans a2.symm)
           subst hij
           rw [hxe] at hj;cases hj;rfl
       refine ⟨_,_,hk,ι,W,.tuple #[e.key,e.val],?_,Names.le_refl _,F,mk_tup2 h2 h3⟩
       have hback:seen.toArray.back?=some b:=by simpa using hs
       simp only [Instr.entry,Sem.run_bind,hg,Result.andThen_ok,hback,hgm,hfind]
       simp
     · exact hv.elim
   · exact hv.elim
 · exact hv.elim
end Go.Ab
