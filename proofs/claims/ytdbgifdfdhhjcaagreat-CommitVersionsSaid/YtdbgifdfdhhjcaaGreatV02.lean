import Derived.Test.YtdbgifdfdhhjcaaGreatV01
set_option linter.unusedVariables false
set_option linter.unusedSimpArgs false
set_option linter.unusedSectionVars false
noncomputable section
namespace Go.Ab
section
open Go Go.RowKit
variable {P:Program} {ι:zw} {W:World} {B:wy} {h:AH}
theorem N3 {op:BinOp} {k:IntKind} {a b:Int} {v:V} (hl:tF op k a b=some v) (t:TypeId) (W:World) :
 ∃ z,(binOp op t (.int k a) (.int k b)).run P W=.ok z W/\rel P ι v z:=by
 unfold tF at hl;split at hl <;> first | (cases hl;done) | skip
 case h_4 =>
  split at hl
  ·cases hl
  ·rename_i hb;cases hl;exact ⟨.int k _,by simp [binOp,Op.intDiv,hb],mk_int _ _⟩
 case h_5 =>
  split at hl
  ·cases hl
  ·rename_i hb;cases hl;exact ⟨.int k _,by simp [binOp,Op.intDiv,hb],mk_int _ _⟩
 all_goals
  cases hl
  first
   | (refine ⟨.int k _,?_,mk_int _ _⟩;simp [binOp,Op.intArith];done)
   | (refine ⟨.bool _,?_,tm _⟩;simp [binOp,Op.intCmp];done)
   | (refine ⟨.int k _,?_,mk_int _ _⟩;simp [binOp];rfl)
theorem z45 {k yk:IntKind} {a b:Int} (hb:¬ b<0) (t:TypeId) (W:World):(binOp .shl t (.int k a) (.int yk b)).run P W=.ok (.int k (Vk k a b)) W:=by
 simp [binOp,Op.shift,hb,Vk]
theorem z2t {k yk:IntKind} {a b:Int} (hb:¬ b<0) (t:TypeId) (W:World):(binOp .shr t (.int k a) (.int yk b)).run P W=.ok (.int k (ZM k a b)) W:=by
 simp only [binOp,Op.shift,hb,if_false,ZM,Sem.run_pure];congr 2;exact Int.fdiv_eq_ediv_of_nonneg _ (Int.le_of_lt (Int.pow_pos D_))
def kv:V->Nat
 | .bool _=>0 | .int _ _=>1 | .str _=>2 | .ptr _=>3 | .y8 _ _=>4 | .agg _=>5 | .map _=>6 | .fn _ _ _=>7 | .uf=>7 | .mB _ _=>8 | .wb=>8 | .yX _=>9 | .xF=>9
def ka:Value->Nat
 | .bool _=>0 | .int _ _=>1 | .string _=>2 | .pointer _=>3 | .slice _ _ _=>4 | .agg _=>5 | .map _=>6 | .func _ _ _=>7 | .nilFunc=>7 | .iface _ _=>8 | .nilIface=>8 | .tuple _=>9
 | .float _ _=>9 | .complex _ _ _=>9 | .chan _=>9
theorem W7 {x:V} (h:kv x=1):∃ k n,x=.int k n:=by cases x <;> first | exact ⟨_,_,rfl⟩ | (simp [kv] at h)
theorem XH {x:V} (h:kv x=2):∃ s,x=.str s:=by cases x <;> first | exact ⟨_,rfl⟩ | (simp [kv] at h)
theorem iH {x:V} {a:Value} (hu:x≠.xF) (h:rel P ι x a):ka a=kv x:=by
 cases x with
 | bool b=>rw [rel_bool h];rfl
 | int k n=>rw [vA h];rfl
 | str s=>rw [tS h];rfl
 | ptr p=>cases p with
  | none=>rw [nJ h];rfl
  | some p=>obtain ⟨q,rfl,_⟩:=sw h;rfl
 | y8 p n=>cases p with
  | none=>obtain ⟨_,rfl⟩:=va h;rfl
  | some p=>obtain ⟨p,s⟩:=p;obtain ⟨q,c,rfl,_⟩:=tP h;rfl
 | agg l=>obtain ⟨cs,rfl,_⟩:=c8 h;rfl
 | map p=>cases p with
  | none=>rw [sF h];rfl
  | some p=>obtain ⟨_,_,rfl⟩:=dY h;rfl
 | fn f p q=>obtain ⟨_,_,rfl,_⟩:=gH h;rfl
 | uf=>rw [oV h];rfl
 | mB t v=>obtain ⟨_,rfl,_⟩:=nV h;rfl
 | wb=>rw [rH h];rfl
 | yX l =>
  obtain ⟨h1,_⟩:=yU S_ S_ h;simp only [zL,List.cons.injEq,and_true] at h1;obtain ⟨vs,_,rfl⟩:=h1;rfl
 | xF=>exact absurd rfl hu
theorem fT {x y:V} {r:Bool} (h:wW x y=some r):kv x=kv y/\kv x≠9/\x≠.xF:=by
 unfold wW at h;split at h <;> first | (cases h;done) | exact ⟨rfl,by simp [kv],S_⟩
theorem MZ {t:TypeId} {x y:V} {r:Bool} (h:WH P t x y=some r):kv x=kv y/\kv x≠9/\kv x≠9:=by
 have:kv x=kv y/\kv x≠9:=by
  unfold WH at h;split at h
  ·split at h
   ·have:=fT h;exact ⟨this.1,this.2.1⟩
   ·cases h
  ·split at h <;> first | (cases h;done) | (split at h <;> first | (cases h;done) | exact ⟨rfl,by simp [kv]⟩)
 exact ⟨this.1,this.2,this.2⟩
theorem YR {t:TypeId} {a b:Value} (h:ka a=ka b) (h1:ka a≠1) (h2:ka a≠2) (h9:ka a≠9) :
 (binOp .eql t a b=do pure (.bool (<- Op.equal t a b)))/\(binOp .neq t a b=do pure (.bool (!(<- Op.equal t a b)))):=by
 cases a <;> first | (exfalso;first | exact h1 rfl | exact h2 rfl | exact h9 rfl) | (cases b <;> first | (exfalso;simp [ka] at h;done) | exact ⟨rfl,rfl⟩)
theorem FI (H:uF P) {op:BinOp} {t:TypeId} {x y v:V} {xo yo:Operand} {a b:Value} (hl:zi P op t x y (Region.isConst xo||Region.isConst yo)=some v) (hx:rel P ι x a) (hy:rel P ι y b) (W:World) :
 ∃ z,(do eqGuard op t xo yo a b;binOp op t a b:Sem Value).run P W=.ok z W/\rel P ι v z:=by
 unfold zi at hl;split at hl
 ·rename_i k p k' q;obtain rfl:=vA hx;obtain rfl:=vA hy;have hg:(eqGuard op t xo yo (.int k p) (.int k' q)).run P W=.ok () W:=by
   unfold eqGuard;split <;> rfl
  simp only [Sem.run_bind,hg,Result.andThen_ok];split at hl
  ·split at hl
   ·cases hl
   ·rename_i hb;cases hl;exact ⟨_,z45 hb t W,mk_int _ _⟩
  ·split at hl
   ·cases hl
   ·rename_i hb;cases hl;exact ⟨_,z2t hb t W,mk_int _ _⟩
  ·split at hl
   ·rename_i hk;subst hk;exact N3 hl t W
   ·cases hl
 ·rename_i p q;obtain rfl:=tS hx;obtain rfl:=tS hy;have hg:(eqGuard op t xo yo (.string ⟨p.toArray⟩) (.string ⟨q.toArray⟩)).run P W=.ok () W:=by
   unfold eqGuard;split <;> rfl
  simp only [Sem.run_bind,hg,Result.andThen_ok];obtain ⟨z,h1,h2⟩:=Nx (P:=P) (ι:=ι) hl W;refine ⟨z,?_,h2⟩;rw [<- h1];cases op <;> first | rfl | (simp [jj] at hl)
 ·rename_i Th hns;have main:∀ {r:Bool},kT P t x y (Region.isConst xo||Region.isConst yo)=true->WH P t x y=some r->∀ f:Bool->Bool,(op=.eql/\f=id\/op=.neq/\f=not) ->
   ∃ z,(do eqGuard op t xo yo a b;binOp op t a b:Sem Value).run P W=.ok z W/\rel P ι (.bool (f r)) z:=by
   intro r hok he f hf;refine ⟨.bool (f r),?_,tm _⟩;have hg:=Uc (op:=op) hok hx hy W;obtain ⟨k1,k2,k3⟩:=MZ he;have e1:=iH (by rintro rfl;exact k3 rfl) hx;have e2:=iH (by rintro rfl;rw [k1] at k3;exact k3 rfl) hy;have n1:kv x≠1:=by
    intro h1;obtain ⟨k,p,rfl⟩:=W7 h1;obtain ⟨k',q,rfl⟩:=W7 (k1.symm.trans h1);exact Th k p k' q rfl rfl
   have n2:kv x≠2:=by
    intro h1;obtain ⟨p,rfl⟩:=XH h1;obtain ⟨q,rfl⟩:=XH (k1.symm.trans h1);exact hns p q rfl rfl
   have heq:=z3j H he hx hy W;rcases hf with ⟨rfl,rfl⟩ | ⟨rfl,rfl⟩
   ·have:=YR (t:=t) (a:=a) (b:=b) (by rw [e1,e2,k1]) (by rw [e1];exact n1) (by rw [e1];exact n2) (by rw [e1];exact k2);simp only [Sem.run_bind,hg,Result.andThen_ok,this.1,heq,Sem.run_pure];rfl
   ·have:=YR (t:=t) (a:=a) (b:=b) (by rw [e1,e2,k1]) (by rw [e1];exact n1) (by rw [e1];exact n2) (by rw [e1];exact k2);simp only [Sem.run_bind,hg,Result.andThen_ok,this.2,heq,Sem.run_pure]
  split at hl
  ·split at hl
   ·rename_i hok;cases he:WH P t x y with
    | none=>rw [he] at hl;cases hl
    | some r=>rw [he] at hl;cases hl;exact main hok he id (.inl ⟨rfl,rfl⟩)
   ·cases hl
  ·split at hl
   ·rename_i hok;cases he:WH P t x y with
    | none=>rw [he] at hl;cases hl
    | some r=>rw [he] at hl;cases hl;exact main hok he not (.inr ⟨rfl,rfl⟩)
   ·cases hl
  ·cases hl
end
section
open Go Go.RowKit
variable {P:Program} {ι:zw} {W:World} {B:wy} {h:AH}
def qJ:V->Bool
 | .ptr _=>true | .y8 _ _=>true | .map _=>true | .fn _ _ _=>true | .uf=>true | .mB _ _=>true | .wb=>true
 | _=>false
theorem vU {d:Nat} {t:TypeId} {x:V} (hp:yz P d t=true) (hn:qJ x=true):¬ zf P x t=true:=by
 intro hx;have key:∃ f,si P t f=true/\f .bool=false/\(∀ k,f (.int k)=false)/\f .string=false/\(∀ fs,f (.struct fs)=false)/\∀ n e,f (.array n e)=false:=by
  cases x <;> first | (simp [qJ] at hn;done) | (simp only [zf] at hx;exact ⟨_,hx,rfl,λ_=>rfl,rfl,λ_=>rfl,λ_ _=>rfl⟩)
 obtain ⟨f,h1,h2,h3,h4,h5,h6⟩:=key;obtain ⟨dd,hu,hd⟩:=wg h1;cases d with
 | zero=>simp [yz] at hp
 | succ d =>
  simp only [yz,hu] at hp;cases dd <;> simp_all
mutual
theorem Xp:∀ (x y:V) (t:TypeId) (d:Nat),yz P d t=true->zf P x t=true->zf P y t=true->wW x y=some true->x=y
 | .agg l,y,t,0,hp,_,_,_=>by simp [yz] at hp
 | .agg l,y,t,d+1,hp,hx,hy,he=>by
  cases y with
  | agg m =>
   simp only [wW] at he;simp only [zf] at hx hy;simp only [yz] at hp;cases hu:ul P t with
   | none=>rw [hu] at hp;simp at hp
   | some dd =>
    rw [hu] at hp hx hy;cases dd with
    | struct fs =>
     simp only [Bool.and_eq_true] at hp;rw [Uo l m fs.toList d hp.2 hx hy he]
    | array n e =>
     simp only [Bool.and_eq_true] at hx hy;rw [eO l m e d hp hx.2 hy.2 he]
    | _=>simp at hx
  | _=>simp [wW] at he
 | .bool p,y,t,d,hp,hx,hy,he=>by
  unfold wW at he;split at he <;> first | (cases he;done) | skip
  all_goals simp_all
 | .int k p,y,t,d,hp,hx,hy,he=>by
  unfold wW at he;split at he <;> first | (cases he;done) | skip
  all_goals simp_all
 | .str p,y,t,d,hp,hx,hy,he=>by
  unfold wW at he;split at he <;> first | (cases he;done) | skip
  all_goals simp_all
 | .ptr p,y,t,d,hp,hx,hy,he=>absurd hx (vU hp (by simp [qJ]))
 | .y8 p n,y,t,d,hp,hx,hy,he=>absurd hx (vU hp (by simp [qJ]))
 | .map p,y,t,d,hp,hx,hy,he=>absurd hx (vU hp (by simp [qJ]))
 | .fn f p q,y,t,d,hp,hx,hy,he=>absurd hx (vU hp (by simp [qJ]))
 | .uf,y,t,d,hp,hx,hy,he=>absurd hx (vU hp (by simp [qJ]))
 | .mB u v,y,t,d,hp,hx,hy,he=>absurd hx (vU hp (by simp [qJ]))
 | .wb,y,t,d,hp,hx,hy,he=>absurd hx (vU hp (by simp [qJ]))
 | .yX l,y,t,d,hp,hx,hy,he=>by simp [zf] at hx
 | .xF,y,t,d,hp,hx,hy,he=>by simp [zf] at hx
theorem Uo:∀ (l m:List V) (fs:List Field) (d:Nat),(fs.all λf=>f.name != "_"&&yz P d f.type)=true->yQ P l (fs.map (·.type))=true->yQ P m (fs.map (·.type))=true->v9 l m=some true->l=m
 | [],[],_,_,_,_,_,_=>rfl
 | [],_ :: _,_,_,_,_,_,he=>by simp [v9] at he
 | _ :: _,[],_,_,_,_,_,he=>by simp [v9] at he
 | v :: vs,w :: ws,[],d,_,hx,_,_=>by simp [yQ] at hx
 | v :: vs,w :: ws,f :: fs,d,hp,hx,hy,he=>by
  simp only [List.all_cons,Bool.and_eq_true] at hp;simp only [List.map_cons,yQ,Bool.and_eq_true] at hx hy;simp only [v9] at he;split at he
  ·rename_i hq;rw [Xp v w f.type d hp.1.2 hx.1 hy.1 hq,Uo vs ws fs d hp.2 hx.2 hy.2 he]
  ·cases he
  ·cases he
theorem eO:∀ (l m:List V) (e:TypeId) (d:Nat),yz P d e=true->zF P l e=true->zF P m e=true->v9 l m=some true->l=m
 | [],[],_,_,_,_,_,_=>rfl
 | [],_ :: _,_,_,_,_,_,he=>by simp [v9] at he
 | _ :: _,[],_,_,_,_,_,he=>by simp [v9] at he
 | v :: vs,w :: ws,e,d,hp,hx,hy,he=>by
  simp only [zF,Bool.and_eq_true] at hx hy;simp only [v9] at he;split at he
  ·rename_i hq;rw [Xp v w e d hp hx.1 hy.1 hq,eO vs ws e d hp hx.2 hy.2 he]
  ·cases he
  ·cases he
end
mutual
theorem qn (H:uF P) (em:Bool):∀ (x:V) (t:TypeId) (d D:Nat) (a:Value) (W:World),yz P d t=true->d<=D->zf P x t=true->rel P ι x a->(Instr.checkKey em D t a).run P W=.ok () W
 | .agg l,t,0,D,a,W,hp,_,_,_=>by simp [yz] at hp
 | .agg l,t,d+1,D,a,W,hp,hD,hx,ha=>by
  obtain ⟨D,rfl⟩:∃ k,D=k+1:=⟨D-1,O_⟩
  obtain ⟨cs,rfl,Ny⟩:=c8 ha;simp only [zf] at hx;simp only [yz] at hp;cases hu:ul P t with
  | none=>rw [hu] at hp;simp at hp
  | some dd =>
   rw [hu] at hp hx;cases dd with
   | struct fs =>
    simp only [Bool.and_eq_true] at hp;simp only [Instr.checkKey,Sem.run_bind,zo hu,Result.andThen_ok];rw [<- Array.forIn_toList];rw [mR H em l fs.toList d D [] cs.toList cs W hp.2 O_ hx Ny (by simpa using H.z4l t fs hu) S_];rfl
   | array n e =>
    simp only [Bool.and_eq_true,beq_iff_eq] at hx;simp only [Instr.checkKey,Sem.run_bind,zo hu,Result.andThen_ok];simp only [Std.Legacy.Range.forIn_eq_forIn_range',Std.Legacy.Range.size,Nat.sub_zero,Nat.add_one_sub_one,Nat.div_one];rw [<- hx.1];rw [jc H em l e d D 0 [] cs.toList cs W hp O_ hx.2 Ny S_ S_];rfl
   | _=>simp at hx
 | .bool p,t,d,D,a,W,hp,hD,hx,ha=>by
  obtain ⟨D,rfl⟩:∃ k,D=k+1:=⟨D-1,by cases d with | zero=>simp [yz] at hp | succ d=>omega⟩
  simp only [zf] at hx;obtain ⟨dd,hu,hd⟩:=wg hx;cases dd <;> simp at hd
  rw [rel_bool ha];simp only [Instr.checkKey,Sem.run_bind,zo hu,Result.andThen_ok,Sem.run_pure]
 | .int k p,t,d,D,a,W,hp,hD,hx,ha=>by
  obtain ⟨D,rfl⟩:∃ k,D=k+1:=⟨D-1,by cases d with | zero=>simp [yz] at hp | succ d=>omega⟩
  simp only [zf] at hx;obtain ⟨dd,hu,hd⟩:=wg hx;cases dd <;> simp at hd
  rw [vA ha];simp only [Instr.checkKey,Sem.run_bind,zo hu,Result.andThen_ok,Sem.run_pure]
 | .str p,t,d,D,a,W,hp,hD,hx,ha=>by
  obtain ⟨D,rfl⟩:∃ k,D=k+1:=⟨D-1,by cases d with | zero=>simp [yz] at hp | succ d=>omega⟩
  simp only [zf] at hx;obtain ⟨dd,hu,hd⟩:=wg hx;cases dd <;> simp at hd
  rw [tS ha];simp only [Instr.checkKey,Sem.run_bind,zo hu,Result.andThen_ok,Sem.run_pure]
 | .ptr p,t,d,D,a,W,hp,hD,hx,ha=>absurd hx (vU hp (by simp [qJ]))
 | .y8 p n,t,d,D,a,W,hp,hD,hx,ha=>absurd hx (vU hp (by simp [qJ]))
 | .map p,t,d,D,a,W,hp,hD,hx,ha=>absurd hx (vU hp (by simp [qJ]))
 | .fn f p q,t,d,D,a,W,hp,hD,hx,ha=>absurd hx (vU hp (by simp [qJ]))
 | .uf,t,d,D,a,W,hp,hD,hx,ha=>absurd hx (vU hp (by simp [qJ]))
 | .mB u v,t,d,D,a,W,hp,hD,hx,ha=>absurd hx (vU hp (by simp [qJ]))
 | .wb,t,d,D,a,W,hp,hD,hx,ha=>absurd hx (vU hp (by simp [qJ]))
 | .yX l,t,d,D,a,W,hp,hD,hx,ha=>by simp [zf] at hx
 | .xF,t,d,D,a,W,hp,hD,hx,ha=>by simp [zf] at hx
theorem mR (H:uF P) (em:Bool):∀ (l:List V) (fs:List Field) (d D:Nat) (pa ra:List Value) (xs:Array Value) (W:World),(fs.all λf=>f.name != "_"&&yz P d f.type)=true->d<=D ->
 yQ P l (fs.map (·.type))=true->y5 P ι l ra->pB P fs pa.length=true->xs.toList=pa++ra ->
 (forIn fs PUnit.unit λf _=>(do
  if f.name≠"_" then
   Instr.checkKey em D f.type (<- part f.type xs f.offset)
  pure (ForInStep.yield PUnit.unit):Sem (ForInStep PUnit))).run P W=.ok PUnit.unit W
 | _,[],d,D,pa,ra,xs,W,_,_,_,_,_,_=>rfl
 | [],_ :: _,d,D,pa,ra,xs,W,_,_,h1,_,_,_=>by simp [yQ] at h1
 | v :: vs,f :: fs,d,D,pa,ra,xs,W,o8,hD,h1,KZ,ho,hx=>by
  simp only [List.all_cons,Bool.and_eq_true,bne_iff_ne,ne_eq] at o8;simp only [List.map_cons,yQ,Bool.and_eq_true] at h1;simp only [y5] at KZ;obtain ⟨a1,a2,k1,k2,rfl⟩:=KZ;simp only [pB,Bool.and_eq_true,beq_iff_eq] at ho;have l1:=wB H v f.type a1 h1.1 k1;obtain ⟨x,p1,p2,_⟩:=sL (a:=pa) (c:=a2) H h1.1 k1 W;have ex:(pa++a1++a2).toArray=xs:=by rw [List.append_assoc,<- hx]
  rw [ex,<- ho.1] at p1;have e1:=qn H em v f.type d D x W o8.1.2 hD h1.1 p2;have hnm:f.name≠"_":=o8.1.1;have:=mR H em vs fs d D (pa++a1) a2 xs W o8.2 hD h1.2 k2 (by rw [List.length_append,l1];exact ho.2) (by rw [hx];simp);simp only [List.forIn_cons,Sem.run_bind,hnm,ne_eq,not_false_eq_true,if_true,p1,Result.andThen_ok,e1,Sem.run_pure];exact this
theorem jc (H:uF P) (em:Bool):∀ (l:List V) (e:TypeId) (d D k:Nat) (pa ra:List Value) (xs:Array Value) (W:World),yz P d e=true->d<=D ->
 zF P l e=true->y5 P ι l ra->pa.length=k*P.cellsOf e->xs.toList=pa++ra ->
 (forIn (List.range' k l.length) PUnit.unit λi _=>(do Instr.checkKey em D e (<- part e xs (i*(<- sizeOf e)));pure (ForInStep.yield PUnit.unit):Sem (ForInStep PUnit))).run P W=.ok PUnit.unit W
 | [],e,d,D,k,pa,ra,xs,W,_,_,_,_,_,_=>rfl
 | v :: vs,e,d,D,k,pa,ra,xs,W,hp,hD,h1,KZ,Nz,hx=>by
  simp only [zF,Bool.and_eq_true] at h1;simp only [y5] at KZ;obtain ⟨a1,a2,k1,k2,rfl⟩:=KZ;have l1:=wB H v e a1 h1.1 k1;obtain ⟨x,p1,p2,_⟩:=sL (a:=pa) (c:=a2) H h1.1 k1 W;have ex:(pa++a1++a2).toArray=xs:=by rw [List.append_assoc,<- hx]
  rw [ex,Nz] at p1;obtain ⟨de,hde⟩:=uB h1.1;have e1:=qn H em v e d D x W hp hD h1.1 p2;have:=jc H em vs e d D (k+1) (pa++a1) a2 xs W hp hD h1.2 k2 (by rw [List.length_append,l1,Nz,Nat.add_mul,Nat.one_mul]) (by rw [hx];simp);simp only [List.length_cons,List.range'_succ,List.forIn_cons,Sem.run_bind,xg hde,p1,Result.andThen_ok,e1,Sem.run_pure];exact this
end
end
section
open Go Go.RowKit
variable {P:Program} {ι:zw} {W:World} {B:wy} {h:AH}
def rk (k:V):List (V × V)->Option (Option (Nat × V))
 | []=>some none
 | (k',v) :: es=>match wW k k' with
  | some true=>some (some (0,v))
  | some false=>match rk k es with
   | some none=>some none
   | some (some (i,w))=>some (some (i+1,w))
   | none=>none
  | none=>none
def mY:Option (Nat × V)->Option (Nat × V)
 | none=>none
 | some (i,w)=>some (i+1,w)
def qD (i:Nat):Option (Nat × Value)->Option (Nat × Value)
 | none=>none
 | some (j,v)=>some (i+j,v)
def qw (P:Program) (ι:zw) (k:V) (kt et:TypeId) (es:List (V × V)) (xs:List MapEntry):Option (Nat × V)->Option (Nat × Value)->Prop
 | none,none=>True
 | some (i,v),some (j,x)=>i=j/\rel P ι v x/\zf P v et=true/\∃ e k',xs[i]?=some e/\x=e.val/\es[i]?=some (k',v)/\wW k k'=some true/\rel P ι k' e.key/\zf P k' kt=true
 | _,_=>False
theorem eW {k k0:V} {kt et:TypeId} {es:List (V × V)} {xs:List MapEntry} {v0:V} {e0:MapEntry} {r:Option (Nat × V)} {r':Option (Nat × Value)} (hf:qw P ι k kt et es xs r r') :
 qw P ι k kt et ((k0,v0) :: es) (e0 :: xs) (mY r) (qD 1 r'):=by
 cases r with
 | none=>cases r' with
  | none=>trivial
  | some q=>exact hf.elim
 | some p =>
  obtain ⟨i,v⟩:=p;cases r' with
  | none=>simp [qw] at hf
  | some q =>
   obtain ⟨j,x⟩:=q;simp only [qw] at hf;obtain ⟨rfl,h1,h2,e,k',h3,h4,h5,h6,h7⟩:=hf;simp only [qw,qD,mY];exact ⟨O_,h1,h2,e,k',by simpa using h3,h4,by simpa using h5,h6,h7⟩
theorem eU (i:Nat) (r:Option (Nat × Value)):qD i (qD 1 r)=qD (i+1) r:=by
 cases r with
 | none=>rfl
 | some p=>obtain ⟨j,v⟩:=p;simp [qD];omega
theorem kZ (H:uF P) {k:V} {kt et:TypeId} {a:Value} (hp:yz P 20 kt=true) (hk:zf P k kt=true) (hka:rel P ι k a):∀ {es:List (V × V)} {xs:List MapEntry} {r:Option (Nat × V)} (i:Nat) (W:World),rk k es=some r->vD P ι kt et es xs ->
 ∃ r',(Instr.findAsking kt a xs i).run P W=.ok (qD i r') W/\qw P ι k kt et es xs r r'
 | [],xs,r,i,W,hf,hm=>by
  simp only [vD] at hm;subst hm;simp only [rk,Option.some.injEq] at hf;subst hf;exact ⟨none,rfl,trivial⟩
 | (k',v) :: es,xs,r,i,W,hf,hm=>by
  simp only [vD] at hm;obtain ⟨e,rest,rfl,h1,h2,h3⟩:=hm;simp only [rk] at hf;cases hq:wW k k' with
  | none=>rw [hq] at hf;cases hf
  | some q =>
   rw [hq] at hf;have e1:(Op.equal kt a e.key).run P W=.ok q W:=qP H k k' kt 20 Op.maxDepth a e.key q W hp D_ hk h1.2 hka h1.1 hq;simp only [Instr.findAsking,Sem.run_bind,e1,Result.andThen_ok];cases q with
   | true =>
    simp only [Option.some.injEq] at hf;subst hf;refine ⟨some (0,e.val),rfl,rfl,h2.1,h2.2,e,k',rfl,rfl,rfl,hq,h1.1,h1.2⟩
   | false =>
    simp only at hf;cases hr:rk k es with
    | none=>rw [hr] at hf;cases hf
    | some r0 =>
     obtain ⟨r',g1,g2⟩:=kZ H hp hk hka (i+1) W hr h3;have hr1:r=mY r0:=by
      rw [hr] at hf;cases r0 with
      | none=>simpa [mY] using hf.symm
      | some p=>obtain ⟨j,w⟩:=p;simpa [mY] using hf.symm
     subst hr1;refine ⟨qD 1 r',?_,eW g2⟩;simp only [Bool.false_eq_true,if_false,g1,eU]
theorem Vj {d:TypeDesc} {k k':V} {a b:Value} {t q:Bool} (hs:Instr.sameNow d a b=some t) (hq:wW k k'=some q) (h1:rel P ι k a) (h2:rel P ι k' b):t=q:=by
 have hk1:k≠.xF:=(fT hq).2.2;have hk2:k'≠.xF:=by
  have:=(fT hq)
  rintro rfl;exact this.2.1 (by rw [this.1];rfl)
 have e1:=iH hk1 h1;have e2:=iH hk2 h2;unfold Instr.sameNow at hs;split at hs
 ·obtain ⟨x,n,rfl⟩:=W7 e1.symm;obtain ⟨y,m,rfl⟩:=W7 e2.symm;have:=vA h1;have:=vA h2;simp only [wW] at hq
  simp_all
 ·obtain ⟨s,rfl⟩:=XH e1.symm;obtain ⟨s',rfl⟩:=XH e2.symm;have g1:=tS h1;have g2:=tS h2;simp only [Value.string.injEq] at g1 g2;subst g1;subst g2;simp only [wW,Option.some.injEq] at hq hs;subst hq;subst hs;have hq:((⟨s.toArray⟩:ByteArray) == ⟨s'.toArray⟩)=(s.toArray == s'.toArray):=rfl;rw [hq];simp
 ·have:∃ x,k=.bool x:=by cases k <;> first | exact ⟨_,rfl⟩ | (simp [kv,ka] at e1)
  obtain ⟨x,rfl⟩:=this;have:∃ x,k'=.bool x:=by cases k' <;> first | exact ⟨_,rfl⟩ | (simp [kv,ka] at e2)
  obtain ⟨y,rfl⟩:=this;have:=rel_bool h1;have:=rel_bool h2;simp only [wW,Option.some.injEq] at hq hs
  simp_all
 ·cases hs
theorem bU {k:V} {kt et:TypeId} {a:Value} {d:TypeDesc} (hka:rel P ι k a):∀ {es:List (V × V)} {xs:List MapEntry} {r:Option (Nat × V)} {r1:Option (Nat × Value)} (i:Nat),rk k es=some r->vD P ι kt et es xs->Instr.findNow d a xs i=some r1 ->
 ∃ r',r1=qD i r'/\qw P ι k kt et es xs r r'
 | [],xs,r,r1,i,hf,hm,hn=>by
  simp only [vD] at hm;subst hm;simp only [rk,Option.some.injEq] at hf;subst hf;simp only [Instr.findNow,Option.some.injEq] at hn;subst hn;exact ⟨none,rfl,trivial⟩
 | (k',v) :: es,xs,r,r1,i,hf,hm,hn=>by
  simp only [vD] at hm;obtain ⟨e,rest,rfl,h1,h2,h3⟩:=hm;simp only [rk] at hf;cases hq:wW k k' with
  | none=>rw [hq] at hf;cases hf
  | some q =>
   rw [hq] at hf;simp only [Instr.findNow] at hn;cases hs:Instr.sameNow d a e.key with
   | none=>rw [hs] at hn;cases hn
   | some t =>
    obtain rfl:=Vj hs hq hka h1.1;rw [hs] at hn;cases t with
    | true =>
     simp only [Option.some.injEq] at hf hn;subst hf;subst hn;exact ⟨some (0,e.val),rfl,rfl,h2.1,h2.2,e,k',rfl,rfl,rfl,hq,h1.1,h1.2⟩
    | false =>
     simp only at hf hn;cases hr:rk k es with
     | none=>rw [hr] at hf;cases hf
     | some r0 =>
      obtain ⟨r',g1,g2⟩:=bU hka (i+1) hr h3 hn;have hr1:r=mY r0:=by
       rw [hr] at hf;cases r0 with
       | none=>simpa [mY] using hf.symm
       | some p=>obtain ⟨j,w⟩:=p;simpa [mY] using hf.symm
      subst hr1;exact ⟨qD 1 r',by rw [g1,eU],eW g2⟩
theorem rI (H:uF P) {k:V} {kt et:TypeId} {a:Value} (hp:yz P 20 kt=true) (hk:zf P k kt=true) (hka:rel P ι k a) {es:List (V × V)} {xs:List MapEntry} {r:Option (Nat × V)} (W:World) (hf:rk k es=some r) (hm:vD P ι kt et es xs) :
 ∃ r',(Instr.findKey kt a xs).run P W=.ok r' W/\qw P ι k kt et es xs r r':=by
 obtain ⟨d,hd⟩:=uB hk;have J5:∀ r':Option (Nat × Value),qD 0 r'=r':=by
  intro r';cases r' with
  | none=>rfl
  | some p=>obtain ⟨j,v⟩:=p;simp [qD]
 simp only [Instr.findKey,Sem.run_bind,zo hd,Result.andThen_ok];cases hn:Instr.findNow d a xs 0 with
 | some r1 =>
  obtain ⟨r',g1,g2⟩:=bU hka 0 hf hm hn;rw [J5] at g1;subst g1;exact ⟨r1,rfl,g2⟩
 | none =>
  obtain ⟨r',g1,g2⟩:=kZ H hp hk hka 0 W hf hm;rw [J5] at g1;exact ⟨r',g1,g2⟩
def sB (P:Program) (h:AH) (t:TypeId) (m k:V) (V4:Bool):Option V :=
 match ul P t with
 | some (.map kt et)=>if yz P 20 kt&&zf P k kt then match m with
  | .map none=>match xk P et with
   | some z=>some (if V4 then .yX [z,.bool false] else z)
   | none=>none
  | .map (some n)=>match h.m n with
   | some (.mp BG et' es)=>if kt=BG/\et=et' then match rk k es with
    | some (some (_,v))=>some (if V4 then .yX [v,.bool true] else v)
    | some none=>match xk P et with
     | some z=>some (if V4 then .yX [z,.bool false] else z)
     | none=>none
    | none=>none
    else none
   | _=>none
  | _=>none
  else none
 | _=>none
theorem kH {a b:V} {x y:Value} (h1:rel P ι a x) (h2:rel P ι b y):rel P ι (.yX [a,b]) (.tuple #[x,y]) :=
 .inr ⟨rfl,by simp only [zL,Value.cells];exact ⟨[x,y],relL_cons h1 (relL_cons h2 relL_nil),rfl⟩⟩
theorem ik {n:Nat} {kt et:TypeId} {es:List (V × V)} {y:Value} (F:ye P B ι h W) (hm:h.m n=some (.mp kt et es)) (hx:rel P ι (.map (some n)) y) :
 ∃ L xs clock,ι n=some L/\y=.map (some L.wC)/\W.heap[L.wC]?=some (.map xs clock)/\vD P ι kt et es xs.toList/\(getObj L.wC).run P W=.ok (.map xs clock) W/\tp xs.toList clock:=by
 obtain ⟨L,hL,xs,clock,h1,h2,h3⟩:=F.obj _ _ hm;obtain ⟨L',X6,rfl⟩:=dY hx;rw [hL] at X6;cases X6;exact ⟨L,xs,clock,hL,rfl,h1,h2,by simp [getObj,Sem.run,h1],h3⟩
theorem TA (K:Ok P) (F:ye P B ι h W) {t:TypeId} {m k v:V} {c:Bool} {y z:Value} (hl:sB P h t m k c=some v) (r1:rel P ι m y) (r2:rel P ι k z) :
 ∃ x,(Instr.lookup t y z c).run P W=.ok x W/\rel P ι v x:=by
 unfold sB at hl;split at hl
 ·rename_i kt et hu;split at hl
  ·rename_i hc;simp only [Bool.and_eq_true] at hc;have BH:=λem=>qn K.lay em k kt 20 10000 z W hc.1 D_ hc.2 r2;have zero:∀ {v:V},(match xk P et with | some z=>some (if c then .yX [z,.bool false] else z) | none=>none)=some v->∃ zz,(zeroValue et).run P W=.ok zz W/\rel P ι v (if c then .tuple #[zz,.bool false] else zz):=by
    intro v hv;split at hv
    ·rename_i zv hz;obtain ⟨zz,z1,z2,z3,z4⟩:=v8 K hz W;cases hv;refine ⟨zz,z1,?_⟩;cases c
     ·exact .inr ⟨z2,z3 ι⟩
     ·exact kH (.inr ⟨z2,z3 ι⟩) (tm _)
    ·cases hv
   split at hl
   ·obtain rfl:=sF r1;obtain ⟨zz,z1,z2⟩:=zero hl;refine ⟨_,?_,z2⟩;have hfk:(Instr.findKey kt z []).run P W=.ok none W:=by
     obtain ⟨d,hd⟩:=uB hc.2;simp only [Instr.findKey,Sem.run_bind,zo hd,Result.andThen_ok,Instr.findNow,Sem.run_pure]
    simp only [Instr.lookup,Sem.run_bind,zo hu,Result.andThen_ok,Sem.run_pure,BH,hfk,z1]
   ·rename_i n;split at hl
    ·rename_i BG et' es hm;split at hl
     ·rename_i htt;obtain ⟨rfl,rfl⟩:=htt;obtain ⟨L,xs,clock,hL,rfl,hb,Y3,pO,pN⟩:=ik F hm r1;split at hl
      ·rename_i i w hf;cases hl;obtain ⟨r',g1,g2⟩:=rI K.lay hc.1 hc.2 r2 W hf Y3;cases r' with
       | none=>simp [qw] at g2
       | some q =>
        obtain ⟨j,x⟩:=q;simp only [qw] at g2;obtain ⟨rfl,hrv,_⟩:=g2;refine ⟨if c then .tuple #[x,.bool true] else x,?_,?_⟩
        ·simp only [Instr.lookup,Sem.run_bind,zo hu,Result.andThen_ok,Sem.run_pure,pO,BH,g1]
        ·cases c
         ·exact hrv
         ·exact kH hrv (tm _)
      ·rename_i hf;obtain ⟨zz,z1,z2⟩:=zero hl;obtain ⟨r',g1,g2⟩:=rI K.lay hc.1 hc.2 r2 W hf Y3;cases r' with
       | some q=>obtain ⟨j,x⟩:=q;simp [qw] at g2
       | none =>
        refine ⟨_,?_,z2⟩;simp only [Instr.lookup,Sem.run_bind,zo hu,Result.andThen_ok,Sem.run_pure,pO,BH,g1,z1]
      ·cases hl
     ·cases hl
    ·cases hl
   ·cases hl
  ·cases hl
 ·cases hl
def World.vh (W:World) (b:Nat) (o:Obj):World:={ W with heap:=W.heap.setIfInBounds b o }
theorem ye.Rf (F:ye P B ι h W) {n:Nat} {kt et:TypeId} {es es':List (V × V)} {L:Loc} (hm:h.m n=some (.mp kt et es)) (hL:ι n=some L) (xs:Array MapEntry) (clock:Nat) (hr:vD P ι kt et es' xs.toList) (pN:tp xs.toList clock) :
 ye P B ι (h.put n (.mp kt et es')) (World.vh W L.wC (.map xs clock)):=by
 obtain ⟨L',X6,sS⟩:=F.obj n _ hm;rw [hL] at X6;cases X6;have hlt:=uA sS;have wO:∀ k,k≠L.wC->(World.vh W L.wC (.map xs clock)).heap[k]?=W.heap[k]?:=by
  intro k hk;simp only [World.vh];rw [Array.getElem?_setIfInBounds_ne O_]
 refine ⟨?_,F.fresh,?_,?_,?_,F.os,F.tape,F.output,by simpa [World.vh] using F.size⟩
 ·intro k o hk;by_cases e:k=n
  ·subst e;simp only [AH.put,if_true,Option.some.injEq] at hk;subst hk;exact ⟨L,hL,xs,clock,by simp [World.vh,hlt],hr,pN⟩
  ·simp only [AH.put,if_neg e] at hk;obtain ⟨Lk,h1,h2⟩:=F.obj k o hk;refine ⟨Lk,h1,vR (zw.le_refl _) ?_ h2⟩;exact wO _ (λe'=>F.apart n k _ _ L Lk hm hk (λBD=>e BD.symm) rfl hL h1 e'.symm)
 ·intro i j o o' Li Lj hi hj wO ux h1 h2;simp only [AH.put] at hi hj;split at hi <;> split at hj
  ·omega
  ·rename_i e1 _;subst e1;cases hi;exact F.apart i j _ _ Li Lj hm hj wO rfl h1 h2
  ·rename_i _ e2;subst e2;cases hj;exact F.apart i j _ _ Li Lj hi hm wO ux h1 h2
  ·exact F.apart i j _ _ Li Lj hi hj wO ux h1 h2
 ·intro i o Li hi ux h1;simp only [AH.put] at hi;split at hi
  ·rename_i e;subst e;cases hi;exact F.free i _ Li hm rfl h1
  ·exact F.free i o Li hi ux h1
 ·intro b hb;obtain ⟨h1,h2⟩:=F.frame b hb;have:b≠L.wC:=λe=>F.free n _ L hm rfl hL (e▸hb);exact ⟨by rw [wO _ this,h1],by simpa [World.vh] using h2⟩
theorem tp.set {xs:List MapEntry} {c i:Nat} {key val:Value} (h:tp xs c):tp (xs.modify i λe=>{ e with key,val }) c:=by
 have e:∀ (xs:List MapEntry) (i:Nat),(xs.modify i λe=>{ e with key,val }).map (·.born)=xs.map (·.born):=by
  intro xs;induction xs with
  | nil=>intro i;simp
  | cons x xs ih=>intro i;cases i with
   | zero=>simp
   | succ i=>simp [ih i]
 have all:∀ (l:List MapEntry),(∀ x∈l,x.born<c)↔∀ b∈l.map (·.born),b<c:=by intro l;simp
 refine ⟨?_,by rw [e];exact h.2⟩;rw [all,e,<- all];exact h.1
theorem tp.snoc {xs:List MapEntry} {c:Nat} {key val:Value} (h:tp xs c):tp (xs++[{ key,val,born:=c }]) (c+1):=by
 refine ⟨λx hx=>?_,?_⟩
 ·rcases List.mem_append.1 hx with hx | hx
  ·have:=h.1 x hx;omega
  ·simp at hx;subst hx;exact Nat.lt_succ_self c
 ·rw [List.map_append,List.nodup_append];refine ⟨h.2,S_,λa ha b hb=>?_⟩;simp at hb;subst hb;obtain ⟨x,hx,rfl⟩:=List.mem_map.1 ha;exact Nat.ne_of_lt (h.1 x hx)
theorem tp.erase {xs:List MapEntry} {c i:Nat} (h:tp xs c):tp (xs.eraseIdx i) c:=by
 refine ⟨λx hx=>h.1 x (List.mem_of_mem_eraseIdx hx),?_⟩;have:(xs.eraseIdx i).map (·.born)=(xs.map (·.born)).eraseIdx i:=by
  have e:∀ (xs:List MapEntry) (i:Nat),(xs.eraseIdx i).map (·.born)=(xs.map (·.born)).eraseIdx i:=by
   intro xs;induction xs with
   | nil=>intro i;simp
   | cons x xs ih=>intro i;cases i with
    | zero=>simp
    | succ i=>simp [ih i]
  exact e xs i
 rw [this];exact List.Nodup.sublist (List.eraseIdx_sublist _ _) h.2
theorem aA {kt et:TypeId}:∀ {es:List (V × V)} {xs:List MapEntry},vD P ι kt et es xs->xs.length=es.length
 | [],xs,h=>by simp only [vD] at h;subst h;rfl
 | (k,v) :: es,xs,h=>by
  simp only [vD] at h;obtain ⟨e,rest,rfl,_,_,h3⟩:=h;simp [aA h3]
theorem Vo {kt et:TypeId} {k v:V} {f:MapEntry->MapEntry}:∀ {es:List (V × V)} {xs:List MapEntry} {i:Nat},vD P ι kt et es xs->(∀ e,xs[i]?=some e->(rel P ι k (f e).key/\zf P k kt=true)/\(rel P ι v (f e).val/\zf P v et=true)) ->
 vD P ι kt et (es.set i (k,v)) (xs.modify i f)
 | [],xs,i,h,_=>by simp only [vD] at h;subst h;simp [vD]
 | (k',v') :: es,xs,i,h,hf=>by
  simp only [vD] at h;obtain ⟨e,rest,rfl,h1,h2,h3⟩:=h;cases i with
  | zero =>
   simp only [List.set_cons_zero,List.modify_zero_cons,vD];obtain ⟨g1,g2⟩:=hf e rfl;exact ⟨f e,rest,rfl,g1,g2,h3⟩
  | succ i =>
   simp only [List.set_cons_succ,List.modify_succ_cons,vD];exact ⟨e,_,rfl,h1,h2,Vo h3 λe' J6=>hf e' (by simpa using J6)⟩
theorem Y8 {kt et:TypeId} {k v:V} {e0:MapEntry} (h1:rel P ι k e0.key/\zf P k kt=true) (h2:rel P ι v e0.val/\zf P v et=true):∀ {es:List (V × V)} {xs:List MapEntry},vD P ι kt et es xs ->
 vD P ι kt et (es++[(k,v)]) (xs++[e0])
 | [],xs,h=>by simp only [vD] at h;subst h;simp only [List.nil_append,vD];exact ⟨e0,[],rfl,h1,h2,rfl⟩
 | (k',v') :: es,xs,h=>by
  simp only [vD] at h;obtain ⟨e,rest,rfl,g1,g2,g3⟩:=h;simp only [List.cons_append,vD];exact ⟨e,rest++[e0],rfl,g1,g2,Y8 h1 h2 g3⟩
theorem Z0 {kt et:TypeId}:∀ {es:List (V × V)} {xs:List MapEntry} {i:Nat},vD P ι kt et es xs->vD P ι kt et (es.eraseIdx i) (xs.eraseIdx i)
 | [],xs,i,h=>by simp only [vD] at h;subst h;simp [vD]
 | (k',v') :: es,xs,i,h=>by
  simp only [vD] at h;obtain ⟨e,rest,rfl,g1,g2,g3⟩:=h;cases i with
  | zero=>simpa using g3
  | succ i=>simp only [List.eraseIdx_cons_succ,vD];exact ⟨e,_,rfl,g1,g2,Z0 g3⟩
def sX (P:Program) (h:AH) (t:TypeId) (m k v:V):Option AH :=
 match ul P t with
 | some (.map kt et)=>if yz P 20 kt&&zf P k kt&&zf P v et then match m with
  | .map (some n)=>match h.m n with
   | some (.mp BG et' es)=>if kt=BG/\et=et' then match rk k es with
    | some (some (i,_))=>some (h.put n (.mp kt et (es.set i (k,v))))
    | some none=>some (h.put n (.mp kt et (es++[(k,v)])))
    | none=>none
    else none
   | _=>none
  | _=>none
  else none
 | _=>none
theorem hJ (W:World) (n b:Nat) (o:Obj):World.vh { W with drawn:=n } b o={ World.vh W b o with drawn:=n }:=rfl
theorem aX (K:Ok P) (F:ye P B ι h W) {t:TypeId} {m k v:V} {h':AH} {y z x:Value} (hl:sX P h t m k v=some h') (r1:rel P ι m y) (r2:rel P ι k z) (r3:rel P ι v x) :
 MT P B ι W (Instr.mapUpdate t y z x) h':=by
 unfold sX at hl;split at hl
 ·rename_i kt et hu;split at hl
  ·rename_i hc;simp only [Bool.and_eq_true] at hc;have BH:=λem=>qn K.lay em k kt 20 10000 z W hc.1.1 D_ hc.1.2 r2;split at hl
   ·rename_i n;split at hl
    ·rename_i BG et' es hm;split at hl
     ·rename_i htt;obtain ⟨rfl,rfl⟩:=htt;obtain ⟨L,xs,clock,hL,rfl,hb,Y3,pO,pN⟩:=ik F hm r1;have qz:∀ (W':World) (o:Obj),W'.heap=W.heap->(setObj L.wC o).run P W'=.ok () (World.vh W' L.wC o):=by
       intro W' o hW';simp only [setObj,Sem.run,hW',hb,World.vh]
      split at hl
      ·rename_i i w hf;cases hl;obtain ⟨r',g1,g2⟩:=rI K.lay hc.1.1 hc.1.2 r2 W hf Y3;cases r' with
       | none=>simp [qw] at g2
       | some q =>
        obtain ⟨j,q⟩:=q;simp only [qw] at g2;obtain ⟨rfl,hrv,hsv,e,k',he,_,hek,Rg,cJ,hsk⟩:=g2;have hkk:k=k':=Xp k k' kt 20 hc.1.1 hc.1.2 hsk Rg;subst hkk;have hxe:xs[i]?=some e:=by simpa using he
        have stays:∃ key n,(Instr.keyThatStays (((xs[i]?).map (·.key)).getD z) z).run P W=.ok key { W with drawn:=n }/\rel P ι k key:=by
         rw [hxe];simp only [Option.map_some,Option.getD_some,Instr.keyThatStays];split
         ·exact ⟨z,W.drawn,rfl,r2⟩
         ·simp only [Sem.run_bind,run_choose];split
          ·simp only [Result.andThen_ok];exact ⟨_,W.drawn,rfl,by split <;> assumption⟩
          ·simp only [Result.andThen_ok];refine ⟨_,W.drawn+1,rfl,by split <;> assumption⟩
        obtain ⟨key,dn,s1,s2⟩:=stays;refine ⟨ι,_,?_,zw.le_refl _,(F.Rf hm hL (xs.modify i λe=>{ e with key,val:=x }) clock (es':=es.set i (k,v)) ?_ ?_).drew dn⟩
        ·simp only [Instr.mapUpdate,Sem.run_bind,zo hu,Result.andThen_ok,pO,BH,g1,s1,qz { W with drawn:=dn } _ rfl,hJ]
        ·rw [Array.toList_modify];exact Vo Y3 λe' _=>⟨⟨s2,hc.1.2⟩,⟨r3,hc.2⟩⟩
        ·rw [Array.toList_modify];exact pN.set
      ·rename_i hf;cases hl;obtain ⟨r',g1,g2⟩:=rI K.lay hc.1.1 hc.1.2 r2 W hf Y3;cases r' with
       | some q=>obtain ⟨j,x⟩:=q;simp [qw] at g2
       | none =>
        refine ⟨ι,_,?_,zw.le_refl _,F.Rf hm hL (xs.push { key:=z,val:=x,born:=clock }) (clock+1) (es':=es++[(k,v)]) ?_ ?_⟩
        ·simp only [Instr.mapUpdate,Sem.run_bind,zo hu,Result.andThen_ok,pO,BH,g1,qz W _ rfl]
        ·rw [Array.toList_push];exact Y8 ⟨r2,hc.1.2⟩ ⟨r3,hc.2⟩ Y3
        ·rw [Array.toList_push];exact pN.snoc
      ·cases hl
     ·cases hl
    ·cases hl
   ·cases hl
  ·cases hl
 ·cases hl
def i9 (P:Program) (h:AH) (t:TypeId) (m k:V):Option AH :=
 match ul P t with
 | some (.map kt _)=>if yz P 20 kt&&zf P k kt then match m with
  | .map (some n)=>match h.m n with
   | some (.mp BG et es)=>if kt=BG then match rk k es with
    | some (some (i,_))=>some (h.put n (.mp kt et (es.eraseIdx i)))
    | some none=>some h
    | none=>none
    else none
   | _=>none
  | _=>none
  else none
 | _=>none
theorem eZ {b:Nat} {o:Obj} (hb:W.heap[b]?=some o):World.vh W b o=W:=by
 have hlt:=vl hb;have:W.heap.setIfInBounds b o=W.heap:=by
  apply Array.ext_getElem?;intro i;by_cases hi:i=b
  ·subst hi;rw [hb];simp [hlt]
  ·rw [Array.getElem?_setIfInBounds_ne O_]
 simp [World.vh,this]
theorem R8 (K:Ok P) (F:ye P B ι h W) {t ty kt0:TypeId} {m k:V} {h':AH} {y z:Value} (hl:i9 P h t m k=some h') (r1:rel P ι m y) (r2:rel P ι k z) :
 ∃ W',(Builtin.delete_ #[t,kt0] ty #[y,z]).run P W=.ok (.tuple #[]) W'/\ye P B ι h' W':=by
 unfold i9 at hl;split at hl
 ·rename_i kt et0 hu;split at hl
  ·rename_i hc;simp only [Bool.and_eq_true] at hc;have BH:=λem=>qn K.lay em k kt 20 10000 z W hc.1 D_ hc.2 r2;split at hl
   ·rename_i n;split at hl
    ·rename_i BG et es hm;split at hl
     ·rename_i htt;subst htt;obtain ⟨L,xs,clock,hL,rfl,hb,Y3,pO,pN⟩:=ik F hm r1;have qz:∀ (o:Obj),(setObj L.wC o).run P W=.ok () (World.vh W L.wC o):=by
       intro o;simp only [setObj,Sem.run,hb];rfl
      split at hl
      ·rename_i i w hf;cases hl;obtain ⟨r',g1,g2⟩:=rI K.lay hc.1 hc.2 r2 W hf Y3;cases r' with
       | none=>simp [qw] at g2
       | some q =>
        obtain ⟨j,q⟩:=q;simp only [qw] at g2;obtain ⟨rfl,_⟩:=g2;refine ⟨_,?_,F.Rf hm hL (xs.eraseIdxIfInBounds i) clock (es':=es.eraseIdx i) ?_ ?_⟩
        ·simp only [Builtin.delete_,List.getElem?_toArray,List.getElem?_cons_zero,List.getElem?_cons_succ,Sem.run_bind,zo hu,Result.andThen_ok,pO,BH,g1,qz,Sem.run_pure]
        ·rw [Array.toList_eraseIdxIfInBounds];exact Z0 Y3
        ·rw [Array.toList_eraseIdxIfInBounds];exact pN.erase
      ·rename_i hf;cases hl;obtain ⟨r',g1,g2⟩:=rI K.lay hc.1 hc.2 r2 W hf Y3;cases r' with
       | some q=>obtain ⟨j,x⟩:=q;simp [qw] at g2
       | none =>
        refine ⟨W,?_,F⟩;simp only [Builtin.delete_,List.getElem?_toArray,List.getElem?_cons_zero,List.getElem?_cons_succ,Sem.run_bind,zo hu,Result.andThen_ok,pO,BH,g1,qz,Sem.run_pure,eZ hb]
      ·cases hl
     ·cases hl
    ·cases hl
   ·cases hl
  ·cases hl
 ·cases hl
def qy (P:Program) (h:AH) (t:TypeId):Option (V × AH) :=
 match ul P t with
 | some (.map kt et)=>some (.map (some h.next),h.make (.mp kt et []))
 | _=>none
theorem VE (F:ye P B ι h W) {t:TypeId} {v:V} {h':AH} (hl:qy P h t=some (v,h')):pD P B ι W (Instr.makeMap t none) v h':=by
 unfold qy at hl;split at hl
 ·rename_i kt et hu;simp only [Option.some.injEq,Prod.mk.injEq] at hl;obtain ⟨rfl,rfl⟩:=hl;let L:Loc:=⟨W.heap.size,0,0,.one 0⟩
  obtain ⟨f1,f2⟩:=F.make (.mp kt et []) (.map #[] 0) L rfl ⟨#[],0,by simp [L],by simp [vD],by simp [tp]⟩;refine ⟨_,_,.map (some W.heap.size),by simp [Instr.makeMap],f1,f2,.inr ⟨rfl,?_⟩⟩;simp only [zL,Value.cells];exact ⟨L,by simp [zw.add],rfl⟩
 ·cases hl
def XT (h:AH) (x:V):Option V :=
 match x with
 | .map none=>some (.int .i64 0)
 | .map (some n)=>match h.m n with
  | some (.mp _ _ es)=>some (.int .i64 es.length)
  | _=>none
 | _=>none
theorem Sw (F:ye P B ι h W) {t ty kt et:TypeId} {x v:V} {y:Value} (hu:ul P t=some (.map kt et)) (hl:XT h x=some v) (r:rel P ι x y):∃ z,(Builtin.len_ #[t] ty #[y]).run P W=.ok z W/\rel P ι v z:=by
 unfold XT at hl;split at hl
 ·cases hl;obtain rfl:=sF r;refine ⟨.int .i64 0,?_,mk_int _ _⟩;simp only [Builtin.len_,List.getElem?_toArray,List.getElem?_cons_zero,Sem.run_bind,zo hu,Result.andThen_ok,Sem.run_pure];rfl
 ·rename_i n;split at hl
  ·rename_i BG et' es hm;cases hl;obtain ⟨L,xs,clock,hL,rfl,hb,Y3,pO,pN⟩:=ik F hm r;refine ⟨.int .i64 es.length,?_,mk_int _ _⟩;have:=aA Y3;have hsz:xs.size=es.length:=by simpa using this
   simp only [Builtin.len_,List.getElem?_toArray,List.getElem?_cons_zero,Sem.run_bind,zo hu,Result.andThen_ok,pO,Sem.run_pure,goInt,hsz]
  ·cases hl
 ·cases hl
end
section
open Go Go.RowKit
variable {P:Program} {ι:zw} {W:World} {B:wy} {h:AH}
def qd (op:UnOp) (x:V):Option V :=
 match op,x with
 | .neg,.int k n=>some (.int k (k.wrap (0-n)))
 | .xor,.int k n=>some (.int k (mz .xor k (if k.signed then -1 else k.max) n))
 | .not,.bool b=>some (.bool (!b))
 | _,_=>none
theorem z1s {op:UnOp} {x v:V} {y:Value} (hl:qd op x=some v) (r:rel P ι x y) (W:World):∃ z,(Op.unary op y).run P W=.ok z W/\rel P ι v z:=by
 unfold qd at hl;split at hl
 ·cases hl;rw [vA r];exact ⟨_,rfl,mk_int _ _⟩
 ·cases hl;rw [vA r];exact ⟨_,rfl,mk_int _ _⟩
 ·cases hl;rw [rel_bool r];exact ⟨_,rfl,tm _⟩
 ·cases hl
def y9 (P:Program) (h:AH) (src dst:TypeId) (x:V):Option V :=
 match x with
 | .int _ n=>match ul P src,ul P dst with
  | some _,some (.int k)=>some (.int k (k.wrap n))
  | _,_=>none
 | .str s=>match ul P src,ul P dst with
  | some .string,some .string=>some (.str s)
  | _,_=>none
 | x=>ph P h src dst x
theorem Ul (K:Ok P) (F:ye P B ι h W) {src dst:TypeId} {x v:V} {y:Value} (hl:y9 P h src dst x=some v) (r:rel P ι x y):∃ z,(convert src dst y).run P W=.ok z W/\rel P ι v z:=by
 unfold y9 at hl;split at hl
 ·rename_i k n;split at hl
  ·rename_i d k' hs hd;cases hl;rw [vA r];refine ⟨.int k' (k'.wrap n),?_,mk_int _ _⟩;simp only [convert,Sem.run_bind,zo hs,zo hd,Result.andThen_ok];rfl
  ·cases hl
 ·split at hl
  ·rename_i s hs hd;cases hl;rw [tS r];refine ⟨_,?_,mk_str _⟩;simp only [convert,Sem.run_bind,zo hs,zo hd,Result.andThen_ok,Sem.run_pure]
  ·cases hl
 ·exact Xt K F hl r
def bQ (P:Program) (t:TypeId) (x:V):Option V :=
 if M6 x then none else match ul P t with
 | some (.interface _)=>none
 | some _=>some (.mB t x)
 | none=>none
theorem No {t:TypeId} {x v:V} {y:Value} (hl:bQ P t x=some v) (r:rel P ι x y) (W:World):∃ z,(Instr.makeInterface t y).run P W=.ok z W/\rel P ι v z:=by
 unfold bQ at hl;split at hl
 ·cases hl
 ·rename_i hu;have wO:=Km (by simpa using hu);split at hl
  ·cases hl
  ·rename_i d Th hd;cases hl;refine ⟨.iface t y,?_,.inr ⟨rfl,?_⟩⟩
   ·simp only [Instr.makeInterface,Sem.run_bind,zo hd,Result.andThen_ok,Sem.run_pure]
   ·rcases r with r | ⟨r1,r2⟩
    ·exact absurd r wO
    ·simp only [zL,Value.cells];exact ⟨y,r1,r2,rfl⟩
  ·cases hl
def zm (x:V) (i:Nat):Option V :=
 match x with
 | .yX l=>l[i]?
 | _=>none
theorem RC {l:List V} {x:Value} (hx:rel P ι (.yX l) x):∃ vs,x=.tuple vs.toArray/\wo P ι l vs:=by
 obtain ⟨h,_⟩:=yU S_ S_ hx;simp only [zL,List.cons.injEq,and_true] at h;obtain ⟨vs,h1,h2⟩:=h;exact ⟨vs,h2,h1⟩
theorem Vp {x v:V} {i:Nat} {y:Value} (hl:zm x i=some v) (r:rel P ι x y) (W:World):∃ z,(Instr.extract y i).run P W=.ok z W/\rel P ι v z:=by
 unfold zm at hl;split at hl
 ·obtain ⟨vs,rfl,hvs⟩:=RC r;obtain ⟨z,h1,h2⟩:=iY hvs i hl;refine ⟨z,?_,h2⟩;simp [Instr.extract,h1]
 ·cases hl
def lU (mx:Bool):List V->Option V
 | [.int k a,.int k' b]=>if k=k' then some (.int k (if mx then (if b>a then b else a) else (if b<a then b else a))) else none
 | _=>none
theorem Ez {l:List V} {v:V} {ys:List Value} (h:lU false l=some v) (r:wo P ι l ys) (at_:Array TypeId) (ty:TypeId) (W:World):∃ z,(Builtin.min_ at_ ty ys.toArray).run P W=.ok z W/\rel P ι v z:=by
 unfold lU at h;split at h
 ·split at h
  ·rename_i hk;cases h;subst hk;obtain ⟨y1,ys1,h1,h2,rfl⟩:=yY.1 r;obtain ⟨y2,ys2,h3,h4,rfl⟩:=yY.1 h2;simp only [wo] at h4;subst h4;rw [vA h1,vA h3];refine ⟨.int _ _,?_,mk_int _ _⟩;simp [Builtin.min_,Builtin.min2]
  ·cases h
 ·cases h
theorem FQ {l:List V} {v:V} {ys:List Value} (h:lU true l=some v) (r:wo P ι l ys) (at_:Array TypeId) (ty:TypeId) (W:World):∃ z,(Builtin.max_ at_ ty ys.toArray).run P W=.ok z W/\rel P ι v z:=by
 unfold lU at h;split at h
 ·split at h
  ·rename_i hk;cases h;subst hk;obtain ⟨y1,ys1,h1,h2,rfl⟩:=yY.1 r;obtain ⟨y2,ys2,h3,h4,rfl⟩:=yY.1 h2;simp only [wo] at h4;subst h4;rw [vA h1,vA h3];refine ⟨.int _ _,?_,mk_int _ _⟩;simp [Builtin.max_,Builtin.max2]
  ·cases h
 ·cases h
def yp (P:Program) (h:AH) (t:TypeId) (len:Nat) (parts:List (Nat × V)):Option (V × AH) :=
 match ul P t with
 | some (.slice e)=>match xk P e with
  | some z=>if P.cellsOf e≠0/\len*P.cellsOf e<=16777216 then match xK P (λ_=>some e) (List.replicate len z) parts with
   | some l=>some (.y8 (some (⟨h.next,.row e,[]⟩,0)) len,h.make (.cells true (.row e) (.agg l)))
   | none=>none
   else none
  | none=>none
 | _=>none
theorem aC (K:Ok P) (F:ye P B ι h W) {t:TypeId} {len:Nat} {ps:List (Nat × V)} {xs:List (Nat × Value)} {v:V} {h':AH} (hl:yp P h t len ps=some (v,h')) (hx:Y0 P ι ps xs) :
 pD P B ι W (Instr.buildSlice t len xs.toArray) v h':=by
 unfold yp at hl;split at hl
 ·rename_i e hu;split at hl
  ·rename_i zv hz;split at hl
   ·rename_i hc;obtain ⟨hc0,hc1⟩:=hc;split at hl
    ·rename_i l hp;simp only [Option.some.injEq,Prod.mk.injEq] at hl;obtain ⟨rfl,rfl⟩:=hl;obtain ⟨zz,z1,z2,z3,z4⟩:=v8 K hz W;obtain ⟨d,hd⟩:=uB z4;have hzs:zz.cells.size=P.cellsOf e:=by have:=wB K.lay _ _ _ z4 (z3 ι);simpa using this
     have fX:((Array.range (len*P.cellsOf e)).map (λi=>zz.cells[i%zz.cells.size]!))=((List.replicate len zz.cells.toList).flatten).toArray:=by
      apply Array.ext';simp only [Array.toList_map,Array.toList_range];rw [<- hzs];exact WU zz.cells O_ _
     obtain ⟨dc,g1,g2,g3,g4⟩:=pJ (place:=λi=>some (i*P.cellsOf e,P.cellsOf e)) K.lay (λi=>rfl) ps xs _ l _ hx hp (tZ z4 len) (nq (z3 ι) len);obtain ⟨ι',L,r1,r2,r3,r4,r5⟩:=N6 (rest:=[]) (e:=e) (ty:=.row e) F (v:=.agg l) (by simpa only [rT] using g3) (cs:=dc) (by simpa only [zL] using g4) rfl;simp only [List.append_nil] at r1 r3;have hlen:dc.length=len*P.cellsOf e:=by
      have:=yJ K.lay _ e _ g3 g4;rw [g2] at this;simpa using this
     refine ⟨ι',_,.slice (some ⟨W.heap.size,0,none⟩) len len,?_,r2,r3,?_⟩
     ·have e2:¬ (len*P.cellsOf e>2 ^ 24):=O_;simp only [Instr.buildSlice,Sem.run_bind,zo hu,Result.andThen_ok,xg hd,e2,if_false,Sem.run_pure];by_cases NB:len*P.cellsOf e=0
      ·have hnn:len=0:=by
        rcases Nat.mul_eq_zero.1 NB with h | h
        ·exact h
        ·exact absurd h hc0
       subst hnn;simp only [List.replicate_zero,List.flatten_nil] at g1;simp only [Nat.zero_mul,if_true,Sem.run_pure,Result.andThen_ok,show Array.range 0=#[] from rfl,Array.map_empty];have g1':Instr.fill (λi=>some (i*P.cellsOf e,P.cellsOf e)) #[] xs=some dc.toArray:=g1;simp only [g1',Sem.run_bind,r1,Result.andThen_ok,Sem.run_pure]
      ·rw [if_neg NB];simp only [Sem.run_bind,z1,Sem.run_pure,Result.andThen_ok,fX,g1,r1]
     ·subst r5;exact XJ r4 rfl (Nat.le_refl _) rfl (by simp [hlen])
    ·cases hl
   ·cases hl
  ·cases hl
 ·cases hl
end
section
open Go Go.RowKit
variable {P:Program} {ι:zw} {W:World} {B:wy} {h:AH}
def z03 (x:Option V) (h:AH):Option (V × AH) :=
 match x with
 | some v=>some (v,h)
 | none=>none
def yw:V:=.yX []
def tq (x:Option AH):Option (V × AH) :=
 match x with
 | some h=>some (yw,h)
 | none=>none
def zr (P:Program) (h:AH) (b:Builtin) (ts:List TypeId) (xs:List V):Option (V × AH) :=
 match b,ts,xs with
 | .len,[t],[x]=>match ul P t with
  | some (.map _ _)=>z03 (XT h x) h
  | _=>z03 (Kw P t x) h
 | .append,[t,xt],[s,x]=>match ul P t with
  | some (.slice e)=>if ji P xt&&(ul P e).isSome then oa P h e s x else none
  | _=>none
 | .copy,[t,_],[d,x]=>match ul P t with
  | some (.slice e)=>if (ul P e).isSome then Py P h e d x else none
  | _=>none
 | .delete,[t,_],[m,k]=>tq (i9 P h t m k)
 | .clear,[t],[d]=>match ul P t with
  | some (.slice e)=>tq (SG P h e d)
  | _=>none
 | .min,_,xs=>z03 (lU false xs) h
 | .max,_,xs=>z03 (lU true xs) h
 | _,_,_=>none
def yc (c a b:V) (h:AH):Option (V × AH) :=
 match c with
 | .bool t=>some (if t then a else b,h)
 | _=>none
def z9 (P:Program) (h:AH) (t:TypeId) (a:V):Option (V × AH) :=
 match a with
 | .ptr (some p)=>z03 (iS P h p t) h
 | _=>none
def zh (P:Program) (h:AH) (t:TypeId) (a x:V):Option (V × AH) :=
 match a with
 | .ptr (some p)=>tq (XI P h p t x)
 | _=>none
def y7 (x:V) (h:AH):Option (V × AH) :=
 match x with
 | .ptr (some p)=>some (.ptr (some p),h)
 | .mB t v=>some (.mB t v,h)
 | .fn (.func f) a b=>some (.fn (.func f) a b,h)
 | _=>none
def Wg (P:Program) (t:TypeId) (x:V):Option V :=
 match ul P t with
 | some (.interface _)=>none
 | some _=>match x with
  | .wb=>match xk P t with
   | some z=>some (.yX [z,.bool false])
   | none=>none
  | .mB u v=>if u=t then some (.yX [v,.bool true]) else match xk P t with
   | some z=>some (.yX [z,.bool false])
   | none=>none
  | _=>none
 | none=>none
theorem S6 (K:Ok P) {t xt:TypeId} {x v:V} {y:Value} (hl:Wg P t x=some v) (r:rel P ι x y) (W:World):∃ z,(Instr.typeAssert y xt t true).run P W=.ok z W/\rel P ι v z:=by
 unfold Wg at hl;split at hl
 ·cases hl
 ·rename_i d Th hd;have zero:∀ z,xk P t=some z->∃ w,(zeroValue t).run P W=.ok w W/\rel P ι z w:=by
   intro z hz;obtain ⟨w,h1,h2,h3,_⟩:=v8 K hz W;exact ⟨w,h1,.inr ⟨h2,h3 ι⟩⟩
  split at hl
  ·split at hl
   ·rename_i z hz;cases hl;obtain ⟨w,h1,h2⟩:=zero z hz;rw [rH r];refine ⟨.tuple #[w,.bool false],?_,kH h2 (tm _)⟩;simp only [Instr.typeAssert,Sem.run_bind,zo hd,Result.andThen_ok];cases d <;> first | exact absurd rfl (Th _) | simp [h1]
   ·cases hl
  ·rename_i u w;obtain ⟨y',hy,h2,_⟩:=nV r;split at hl
   ·rename_i hut;cases hl;rw [hy];refine ⟨.tuple #[y',.bool true],?_,kH h2 (tm _)⟩;simp only [Instr.typeAssert,Sem.run_bind,zo hd,Result.andThen_ok];cases d <;> first | exact absurd rfl (Th _) | simp [hut]
   ·rename_i hut;split at hl
    ·rename_i z hz;cases hl;obtain ⟨w',h1,h3⟩:=zero z hz;rw [hy];refine ⟨.tuple #[w',.bool false],?_,kH h3 (tm _)⟩;simp only [Instr.typeAssert,Sem.run_bind,zo hd,Result.andThen_ok];cases d <;> first | exact absurd rfl (Th _) | simp [hut,h1]
    ·cases hl
  ·cases hl
 ·cases hl
def ZL (P:Program) (ρ:Operand->V) (h:AH) (o:Op):Option (V × AH) :=
 match o with
 | .move x=>some (ρ x,h)
 | .assign x=>some (ρ x,h)
 | .pick c a b=>yc (ρ c) (ρ a) (ρ b) h
 | .alloc e=>zV P h e
 | .box e x=>xR P h e (ρ x)
 | .build t ps=>z03 (zD P t (ps.toList.map λp=>(p.1,ρ p.2))) h
 | .buildSlice t n ps=>yp P h t n (ps.toList.map λp=>(p.1,ρ p.2))
 | .load t a=>z9 P h t (ρ a)
 | .store t a x=>zh P h t (ρ a) (ρ x)
 | .nilCheck x=>y7 (ρ x) h
 | .binOp op t x y _=>z03 (zi P op t (ρ x) (ρ y) (Region.isConst x||Region.isConst y)) h
 | .unOp op _ x=>z03 (qd op (ρ x)) h
 | .convert s d x=>z03 (y9 P h s d (ρ x)) h
 | .makeInterface t x=>z03 (bQ P t (ρ x)) h
 | .makeFunc fn a b=>some (.fn fn (a.toList.map ρ) (b.toList.map ρ),h)
 | .makeMap t none=>qy P h t
 | .makeSlice t l c=>wU P h t (ρ l) (ρ c)
 | .slice t x lo hi none=>z03 (yC P h t (ρ x) (lo.map ρ) (hi.map ρ)) h
 | .fieldAddr s x f=>z03 (z5 P s (ρ x) f) h
 | .field t x f=>z03 (SK P t (ρ x) f) h
 | .indexAddr t x i=>z03 (zy P t (ρ x) (ρ i)) h
 | .index t x i=>z03 (vN P t (ρ x) (ρ i)) h
 | .lookup t x k c=>z03 (sB P h t (ρ x) (ρ k) c) h
 | .mapUpdate t m k x=>tq (sX P h t (ρ m) (ρ k) (ρ x))
 | .insert t m k x=>tq (sX P h t (ρ m) (ρ k) (ρ x))
 | .extract x i=>z03 (zm (ρ x) i) h
 | .typeAssert x _ t true=>z03 (Wg P t (ρ x)) h
 | .call { callee:=.builtin b,args:=args,argTypes:=ts }=>zr P h b ts.toList (args.toList.map ρ)
 | _=>none
theorem zK {x:Option V} {v:V} {h h':AH} (e:z03 x h=some (v,h')):x=some v/\h'=h:=by
 unfold z03 at e;split at e
 ·cases e;exact ⟨rfl,rfl⟩
 ·cases e
theorem rg {x:Option AH} {v:V} {h':AH} (e:tq x=some (v,h')):x=some h'/\v=yw:=by
 unfold tq at e;split at e
 ·cases e;exact ⟨rfl,rfl⟩
 ·cases e
theorem lc:rel P ι yw undef:=.inr ⟨rfl,by simp only [yw,zL,Value.cells,undef];exact ⟨[],by simp [wo],rfl⟩⟩
def uP (P:Program) (B:wy) (ι:zw) (W:World) (s:Sem Next) (v:V) (h':AH):Prop :=
 ∃ ι' W' nx,s.run P W=.ok nx W'/\zw.le ι ι'/\ye P B ι' h' W'/\((∃ y,nx=.value y/\rel P ι' v y)\/(nx=.skip/\v=yw))
theorem uP.of {s:Sem Value} {v:V} {h':AH} (d:pD P B ι W s v h'):uP P B ι W (do pure (.value (<- s))) v h':=by
 obtain ⟨ι',W',x,h1,h2,h3,h4⟩:=d;exact ⟨ι',W',.value x,by simp [h1],h2,h3,.inl ⟨x,rfl,h4⟩⟩
theorem uP.ofU {s:Sem Unit} {h':AH} (d:MT P B ι W s h'):uP P B ι W (do s;pure .skip) yw h':=by
 obtain ⟨ι',W',h1,h2,h3⟩:=d;exact ⟨ι',W',.skip,by simp [h1],h2,h3,.inr ⟨rfl,rfl⟩⟩
theorem uP.z03 (F:ye P B ι h W) {s:Sem Value} {v:V} (d:∃ z,s.run P W=.ok z W/\rel P ι v z):uP P B ι W (do pure (.value (<- s))) v h:=by
 obtain ⟨z,h1,h2⟩:=d;exact .of (pD.z03 F h1 h2)
theorem pw {ρ:Operand->V} {ρ':Operand->Value} (hρ:∀ x,rel P ι (ρ x) (ρ' x)):∀ l:List Operand,wo P ι (l.map ρ) (l.map ρ')
 | []=>relL_nil
 | x :: l=>relL_cons (hρ x) (pw hρ l)
theorem cY {ρ:Operand->V} {ρ':Operand->Value} (hρ:∀ x,rel P ι (ρ x) (ρ' x)):∀ l:List (Nat × Operand),Y0 P ι (l.map λp=>(p.1,ρ p.2)) (l.map λp=>(p.1,ρ' p.2))
 | []=>by simp [Y0]
 | (i,x) :: l=>by simp only [List.map_cons,Y0];exact ⟨_,_,rfl,hρ x,cY hρ l⟩
theorem U6 {ρ:Operand->V} {ρ':Operand->Value} (hρ:∀ x,rel P ι (ρ x) (ρ' x)) (x:Option Operand):Wo P ι (x.map ρ) (x.map ρ'):=by
 cases x with
 | none=>trivial
 | some x=>exact hρ x
theorem VM (K:Ok P) (F:ye P B ι h W) {b:Builtin} {ts:Array TypeId} {ty:TypeId} {cs:Array Bool} {xs:List V} {ys:List Value} {v:V} {h':AH} (hl:zr P h b ts.toList xs=some (v,h')) (r:wo P ι xs ys) :
 uP P B ι W (builtin b ts ty cs ys.toArray) v h':=by
 unfold zr at hl;split at hl
 ·rename_i t x gy;obtain ⟨y,ys',h1,h2,rfl⟩:=yY.1 r;simp only [wo] at h2;subst h2;obtain rfl:ts=#[t]:=by apply Array.ext';simpa using gy
  split at hl
  ·rename_i kt et hu;obtain ⟨e1,rfl⟩:=zK hl;exact uP.z03 F (Sw F hu e1 h1)
  ·obtain ⟨e1,rfl⟩:=zK hl;exact uP.z03 F (Gu e1 h1 W)
 ·rename_i t xt s x gy;obtain ⟨y,ys',h1,h2,rfl⟩:=yY.1 r;obtain ⟨z,zs',h3,h4,rfl⟩:=yY.1 h2;simp only [wo] at h4;subst h4;obtain rfl:ts=#[t,xt]:=by apply Array.ext';simpa using gy
  split at hl
  ·rename_i e hu;split at hl
   ·rename_i hc;simp only [Bool.and_eq_true] at hc;exact .of (R7 K F hu hc.1 hl h1 h3 hc.2)
   ·cases hl
  ·cases hl
 ·rename_i t xt d x gy;obtain ⟨y,ys',h1,h2,rfl⟩:=yY.1 r;obtain ⟨z,zs',h3,h4,rfl⟩:=yY.1 h2;simp only [wo] at h4;subst h4;obtain rfl:ts=#[t,xt]:=by apply Array.ext';simpa using gy
  split at hl
  ·rename_i e hu;split at hl
   ·rename_i hc;exact .of (LH K F hu hc hl h1 h3)
   ·cases hl
  ·cases hl
 ·rename_i t kt m k gy;obtain ⟨y,ys',h1,h2,rfl⟩:=yY.1 r;obtain ⟨z,zs',h3,h4,rfl⟩:=yY.1 h2;simp only [wo] at h4;subst h4;obtain rfl:ts=#[t,kt]:=by apply Array.ext';simpa using gy
  obtain ⟨e1,rfl⟩:=rg hl;obtain ⟨W',g1,g2⟩:=R8 (ty:=ty) (kt0:=kt) K F e1 h1 h3;exact .of ⟨ι,W',.tuple #[],g1,zw.le_refl _,g2,lc⟩
 ·rename_i t d gy;obtain ⟨y,ys',h1,h2,rfl⟩:=yY.1 r;simp only [wo] at h2;subst h2;obtain rfl:ts=#[t]:=by apply Array.ext';simpa using gy
  split at hl
  ·rename_i e hu;obtain ⟨e1,rfl⟩:=rg hl;exact .of (Ns K F hu e1 h1)
  ·cases hl
 ·obtain ⟨e1,rfl⟩:=zK hl;exact uP.z03 F (Ez e1 r _ _ W)
 ·obtain ⟨e1,rfl⟩:=zK hl;exact uP.z03 F (FQ e1 r _ _ W)
 ·cases hl
theorem S5 (K:Ok P) (F:ye P B ι h W) {ρ:Operand->V} {ρ':Operand->Value} (hρ:∀ x,rel P ι (ρ x) (ρ' x)) {o:Oper} {v:V} {h':AH} (hl:ZL P ρ h o.op=some (v,h')) :
 uP P B ι W (execOp ρ' o) v h':=by
 obtain ⟨dst,op,type,pos,after,guard⟩:=o;unfold ZL at hl;simp only at hl;split at hl <;> first | (cases hl;done) | skip
 ·cases hl;exact ⟨ι,W,_,rfl,zw.le_refl _,F,.inl ⟨_,rfl,hρ _⟩⟩
 ·cases hl;exact ⟨ι,W,_,rfl,zw.le_refl _,F,.inl ⟨_,rfl,hρ _⟩⟩
 ·rename_i c a b;unfold yc at hl;split at hl
  ·rename_i t hc;cases hl;have hb:=rel_bool (hc▸hρ c);refine ⟨ι,W,.value (if t then ρ' a else ρ' b),?_,zw.le_refl _,F,.inl ⟨_,rfl,?_⟩⟩
   ·simp only [execOp,hb,asBool,Sem.run_bind,Sem.run_pure,Result.andThen_ok]
   ·cases t <;> exact hρ _
  ·cases hl
 ·exact .of (OJ K F hl)
 ·rename_i e x;exact .of (QA K F hl (hρ x))
 ·rename_i t ps;obtain ⟨e1,rfl⟩:=zK hl;have:=N8 K e1 (cY hρ ps.toList) W;refine uP.z03 F ?_;obtain ⟨z,z1,z2⟩:=this;refine ⟨z,?_,z2⟩;rw [<- z1];congr 2;apply Array.ext';simp
 ·rename_i t n ps;have:=aC K F hl (cY hρ ps.toList);refine .of ?_;have e:(ps.map λx=>(x.1,ρ' x.2))=(ps.toList.map λp=>(p.1,ρ' p.2)).toArray:=by apply Array.ext';simp
  simp only [e];exact this
 ·rename_i t a;unfold z9 at hl;split at hl
  ·rename_i p hp;obtain ⟨e1,rfl⟩:=zK hl;obtain ⟨x,hx1,hx2⟩:=sw (hp▸hρ a);refine .of ?_;have:=MV K F e1 hx2;obtain ⟨ι',W',y,g1,g2⟩:=this;exact ⟨ι',W',y,by simp only [Instr.loadAt,hx1,Instr.sureAddr,Sem.run_bind,Sem.run_pure,Result.andThen_ok];exact g1,g2⟩
  ·cases hl
 ·rename_i t a x;unfold zh at hl;split at hl
  ·rename_i p hp;obtain ⟨e1,rfl⟩:=rg hl;obtain ⟨y,hy1,hy2⟩:=sw (hp▸hρ a);refine .ofU ?_;obtain ⟨ι',W',g1,g2⟩:=Nj K F e1 hy2 (hρ x);exact ⟨ι',W',by simp only [Instr.storeAt,hy1,Instr.sureAddr,Sem.run_bind,Sem.run_pure,Result.andThen_ok];exact g1,g2⟩
  ·cases hl
 ·rename_i x;have hx:=hρ x;unfold y7 at hl;split at hl <;> first | (cases hl;done) | skip
  ·rename_i p hp;cases hl;rw [hp] at hx;obtain ⟨y,hy,_⟩:=sw hx;refine ⟨ι,W,.value (ρ' x),?_,zw.le_refl _,F,.inl ⟨_,rfl,hx⟩⟩;simp only [execOp,hy,Sem.run_pure]
  ·rename_i t v' hp;cases hl;rw [hp] at hx;obtain ⟨y,hy,_⟩:=nV hx;refine ⟨ι,W,.value (ρ' x),?_,zw.le_refl _,F,.inl ⟨_,rfl,hx⟩⟩;simp only [execOp,hy,Sem.run_pure]
  ·rename_i f a b hp;cases hl;rw [hp] at hx;obtain ⟨a',b',hy,_⟩:=gH hx;refine ⟨ι,W,.value (ρ' x),?_,zw.le_refl _,F,.inl ⟨_,rfl,hx⟩⟩;simp only [execOp,hy,Sem.run_pure]
 ·rename_i op t x y yt;obtain ⟨e1,rfl⟩:=zK hl;exact uP.z03 F (FI K.lay e1 (hρ x) (hρ y) W)
 ·rename_i op t x;obtain ⟨e1,rfl⟩:=zK hl;exact uP.z03 F (z1s e1 (hρ x) W)
 ·rename_i s d x;obtain ⟨e1,rfl⟩:=zK hl;exact uP.z03 F (Ul K F e1 (hρ x))
 ·rename_i t x;obtain ⟨e1,rfl⟩:=zK hl;exact uP.z03 F (No e1 (hρ x) W)
 ·rename_i fn a b;cases hl;refine uP.z03 F ⟨.func fn (a.map ρ') (b.map ρ'),rfl,.inr ⟨rfl,?_⟩⟩;simp only [zL,Value.cells];refine ⟨a.toList.map ρ',b.toList.map ρ',pw hρ _,pw hρ _,?_⟩;congr 2 <;> (apply Array.ext';simp)
 ·exact .of (VE F hl)
 ·rename_i t l c;exact .of (ZT K F hl (hρ l) (hρ c))
 ·rename_i t x lo hi;obtain ⟨e1,rfl⟩:=zK hl;exact uP.z03 F (z1f K F e1 (hρ x) (U6 hρ lo) (U6 hρ hi))
 ·rename_i s x f;obtain ⟨e1,rfl⟩:=zK hl;exact uP.z03 F (ZW e1 (hρ x) W)
 ·rename_i t x f;obtain ⟨e1,rfl⟩:=zK hl;exact uP.z03 F (Os K e1 (hρ x) W)
 ·rename_i t x i;obtain ⟨e1,rfl⟩:=zK hl;exact uP.z03 F (ZH e1 (hρ x) (hρ i) W)
 ·rename_i t x i;obtain ⟨e1,rfl⟩:=zK hl;exact uP.z03 F (OO K e1 (hρ x) (hρ i) W)
 ·rename_i t x k c;obtain ⟨e1,rfl⟩:=zK hl;exact uP.z03 F (TA K F e1 (hρ x) (hρ k))
 ·rename_i t m k x;obtain ⟨e1,rfl⟩:=rg hl;exact .ofU (aX K F e1 (hρ m) (hρ k) (hρ x))
 ·rename_i t m k x;obtain ⟨e1,rfl⟩:=rg hl;exact .ofU (aX K F e1 (hρ m) (hρ k) (hρ x))
 ·rename_i x i;obtain ⟨e1,rfl⟩:=zK hl;exact uP.z03 F (Vp e1 (hρ x) W)
 ·rename_i x xt t;obtain ⟨e1,rfl⟩:=zK hl;exact uP.z03 F (S6 K e1 (hρ x) W)
 ·rename_i b args ts;have:=VM (ty:=type) (cs:=args.map fun | .const _=>true | _=>false) K F hl (pw hρ args.toList);obtain ⟨ι',W',nx,g1,g2⟩:=this;refine ⟨ι',W',nx,?_,g2⟩;rw [<- g1];have e:args.map ρ'=(args.toList.map ρ').toArray:=by apply Array.ext';simp
  simp only [execOp,resolve,Sem.run_bind,Sem.run_pure,Result.andThen_ok,invoke,e];rfl
end
section
open Go Go.RowKit
variable {P:Program} {ι:zw} {W:World} {B:wy} {h:AH}
theorem ye.z4x (F:ye P B ι h W) {n:Nat} {o o':AO} {L:Loc} (hm:h.m n=some o) (mv:o.w8=true) (hL:ι n=some L) (x:Obj) (hx:pG P ι (World.vh W L.wC x) L o') :
 ye P B ι (h.put n o') (World.vh W L.wC x):=by
 obtain ⟨L',X6,sS⟩:=F.obj n _ hm;rw [hL] at X6;cases X6;have hlt:=uA sS;have wO:∀ k,k≠L.wC->(World.vh W L.wC x).heap[k]?=W.heap[k]?:=by
  intro k hk;simp only [World.vh];rw [Array.getElem?_setIfInBounds_ne O_]
 refine ⟨?_,F.fresh,?_,?_,?_,F.os,F.tape,F.output,by simpa [World.vh] using F.size⟩
 ·intro k o2 hk;by_cases e:k=n
  ·subst e;simp only [AH.put,if_true,Option.some.injEq] at hk;subst hk;exact ⟨L,hL,hx⟩
  ·simp only [AH.put,if_neg e] at hk;obtain ⟨Lk,h1,h2⟩:=F.obj k o2 hk;refine ⟨Lk,h1,vR (zw.le_refl _) ?_ h2⟩;exact wO _ (λe'=>F.apart n k _ _ L Lk hm hk (λBD=>e BD.symm) mv hL h1 e'.symm)
 ·intro i j o1 o2 Li Lj hi hj wO ux h1 h2;simp only [AH.put] at hi hj;split at hi <;> split at hj
  ·omega
  ·rename_i e1 _;subst e1;exact F.apart i j _ _ Li Lj hm hj wO mv h1 h2
  ·rename_i _ e2;subst e2;exact λe=>F.apart j i _ _ Lj Li hm hi (λe=>wO e.symm) mv h2 h1 e.symm
  ·exact F.apart i j _ _ Li Lj hi hj wO ux h1 h2
 ·intro i o2 Li hi ux h1;simp only [AH.put] at hi;split at hi
  ·rename_i e;subst e;exact F.free i _ Li hm mv h1
  ·exact F.free i o2 Li hi ux h1
 ·intro b hb;obtain ⟨h1,h2⟩:=F.frame b hb;have:b≠L.wC:=λe=>F.free n _ L hm mv hL (e▸hb);exact ⟨by rw [wO _ this,h1],by simpa [World.vh] using h2⟩
theorem ye.J7 (F:ye P B ι h W) {n:Nat} {o o':AO} {L:Loc} (hm:h.m n=some o) (mv:o.w8=true) (hL:ι n=some L) (hx:pG P ι W L o'):ye P B ι (h.put n o') W:=by
 obtain ⟨L',X6,sS⟩:=F.obj n _ hm;rw [hL] at X6;cases X6;have hlt:=uA sS;have z0v:World.vh W L.wC W.heap[L.wC]=W:=eZ (by simp [hlt]);have:=F.z4x (o':=o') hm mv hL W.heap[L.wC] (by rw [z0v];exact hx)
 rwa [z0v] at this
def itV (n:Nat):V:=.ptr (some ⟨n,.one 0,[]⟩)
theorem XR {n:Nat} {b:Nat} {s:Nat} {ty:nC} (hn:ι n=some ⟨b,0,s,ty⟩) (ht:ty=.one 0):rel P ι (itV n) (.pointer (some ⟨b,0,none⟩)) :=
 .inr ⟨rfl,by simp only [itV,zL,Value.cells];exact ⟨_,⟨⟨b,0,s,ty⟩,0,0,hn,ht,rfl,rfl⟩,rfl⟩⟩
theorem ci {a:PA} {L:Loc} {x:Value} (hr:rel P ι (.ptr (some a)) x) (ha:a.p=[]) (hL:ι a.n=some L) (h0:L.off=0):x=.pointer (some ⟨L.wC,0,none⟩):=by
 obtain ⟨y,rfl,M,o,t,g1,g2,g3,rfl⟩:=sw hr;rw [hL] at g1;cases g1;obtain ⟨n,ty,p⟩:=a;simp only at ha;subst ha;cases ty with
 | one t =>
  simp only [tN,lay,Option.some.injEq,Prod.mk.injEq] at g3;rw [<- g3.1,h0]
 | row e=>simp [tN] at g3
def Wr (P:Program) (t:TypeId) (x:V) (h:AH) (K:V->AH->Prop):Prop :=
 match x with
 | .str s=>ul P t=some .string/\K (itV h.next) (h.make (.BC s 0))
 | .map none=>(∃ kt et,ul P t=some (.map kt et))/\K (itV h.next) (h.make (.PZ none 0 [] 0))
 | .map (some n)=>(∃ kt et,ul P t=some (.map kt et))/\match h.m n with
  | some (.mp kt et es)=>∀ st clock,st.length=es.length->(∀ b∈st,b<clock)->st.Nodup->K (itV h.next) ((h.put n (.BB kt et es st clock)).make (.PZ (some n) clock [] clock))
  | _=>False
 | _=>False
theorem jE (W:World) (o:Obj):(newObj o).run P W=.ok W.heap.size { W with heap:=W.heap.push o }:=rfl
theorem SA (F:ye P B ι h W) {t:TypeId} {x:V} {y:Value} {K:V->AH->Prop} (hv:Wr P t x h K) (r:rel P ι x y) :
 ∃ v h',K v h'/\pD P B ι W (Instr.range t y) v h':=by
 unfold Wr at hv;split at hv
 ·rename_i s;obtain ⟨hu,hv⟩:=hv;obtain rfl:=tS r;refine ⟨_,_,hv,?_⟩;obtain ⟨f1,f2⟩:=F.make (.BC s 0) (.stringIter ⟨s.toArray⟩ 0) ⟨W.heap.size,0,0,.one 0⟩ rfl ⟨rfl,S_⟩;refine ⟨_,_,.pointer (some ⟨W.heap.size,0,none⟩),?_,f1,f2,XR (b:=W.heap.size) (s:=0) (ty:=.one 0) (by simp [zw.add]) rfl⟩;simp only [Instr.range,Sem.run_bind,zo hu,Result.andThen_ok,Sem.run_pure,jE]
 ·obtain ⟨⟨kt,et,hu⟩,hv⟩:=hv;obtain rfl:=sF r;refine ⟨_,_,hv,?_⟩;obtain ⟨f1,f2⟩:=F.make (.PZ none 0 [] 0) (.mapIter none 0 #[] 0) ⟨W.heap.size,0,0,.one 0⟩ rfl ⟨rfl,none,rfl,S_⟩;refine ⟨_,_,.pointer (some ⟨W.heap.size,0,none⟩),?_,f1,f2,XR (b:=W.heap.size) (s:=0) (ty:=.one 0) (by simp [zw.add]) rfl⟩;simp only [Instr.range,Sem.run_bind,zo hu,Result.andThen_ok,Sem.run_pure,jE]
 ·rename_i n;obtain ⟨⟨kt0,et0,hu⟩,hv⟩:=hv;split at hv
  ·rename_i kt et es hm;obtain ⟨L,xs,clock,hL,rfl,hb,Y3,pO,pN⟩:=ik F hm r;have F1:ye P B ι (h.put n (.BB kt et es (xs.toList.map (·.born)) clock)) W:=F.J7 hm rfl hL ⟨xs,hb,Y3,pN,rfl⟩;have k:=hv (xs.toList.map (·.born)) clock (by simp [<- aA Y3]) (by
    intro b hb;obtain ⟨x,hx,rfl⟩:=List.mem_map.1 hb;exact pN.1 x hx) pN.2
   refine ⟨_,_,k,?_⟩;obtain ⟨f1,f2⟩:=F1.make (.PZ (some n) clock [] clock) (.mapIter (some L.wC) clock #[] clock) ⟨W.heap.size,0,0,.one 0⟩ rfl ⟨rfl,some L.wC,⟨L,by
    simp only [zw.add];rw [if_neg]
    ·exact ⟨hL,trivial⟩
    ·intro e;have:=F.fresh n (by rw [e];exact Nat.le_refl _);rw [hL] at this;cases this⟩,S_⟩
   refine ⟨_,_,.pointer (some ⟨W.heap.size,0,none⟩),?_,f1,f2,XR (b:=W.heap.size) (s:=0) (ty:=.one 0) (by simp [zw.add,AH.put]) rfl⟩;simp only [Instr.range,Sem.run_bind,zo hu,Result.andThen_ok,pO,Sem.run_pure,jE]
  ·exact hv.elim
 ·exact hv.elim
def XD (x:V) (h:AH) (K:V->AH->Prop):Prop :=
 match x with
 | .ptr (some a)=>a.p=[]/\match h.m a.n with
  | some (.BC s pos) =>
   (pos<s.length->K (.yX [.bool true,.int .i64 pos,.int .i32 (Utf8.decode ⟨s.toArray⟩ pos).1]) (h.put a.n (.BC s (pos+(Utf8.decode ⟨s.toArray⟩ pos).2)))) /\
   (s.length<=pos->K (.yX [.bool false]) h)
  | _=>False
 | _=>False
theorem Wn {a:V} {x:Value} (h1:rel P ι a x):rel P ι (.yX [a]) (.tuple #[x]) :=
 .inr ⟨rfl,by simp only [zL,Value.cells];exact ⟨[x],relL_cons h1 relL_nil,rfl⟩⟩
theorem RO {a b c:V} {x y z:Value} (h1:rel P ι a x) (h2:rel P ι b y) (h3:rel P ι c z):rel P ι (.yX [a,b,c]) (.tuple #[x,y,z]) :=
 .inr ⟨rfl,by simp only [zL,Value.cells];exact ⟨[x,y,z],relL_cons h1 (relL_cons h2 (relL_cons h3 relL_nil)),rfl⟩⟩
theorem bB {b:Nat} {o o':Obj} {W:World} (hb:W.heap[b]?=some o) (hc:∀ a b c,o≠.cells a b c):(setObj b o').run P W=.ok () (World.vh W b o'):=by
 simp only [setObj,Sem.run,hb,World.vh]
theorem Si (F:ye P B ι h W) {ty:TypeId} {x:V} {y:Value} {K:V->AH->Prop} (hv:XD x h K) (r:rel P ι x y) :
 ∃ v h',K v h'/\pD P B ι W (Instr.next y true ty) v h':=by
 unfold XD at hv;split at hv
 ·rename_i a;obtain ⟨ha,hv⟩:=hv;split at hv
  ·rename_i s pos hm;obtain ⟨L,hL,h0,hb⟩:=F.obj _ _ hm;obtain rfl:=ci r ha hL h0;have hg:(getObj L.wC).run P W=.ok (.stringIter ⟨s.toArray⟩ pos) W:=by simp [getObj,Sem.run,hb]
   rcases Nat.lt_or_ge pos s.length with hp | hp
   ·refine ⟨_,_,hv.1 hp,ι,World.vh W L.wC (.stringIter ⟨s.toArray⟩ (pos+(Utf8.decode ⟨s.toArray⟩ pos).2)),.tuple #[.bool true,goInt pos,.int .i32 (Utf8.decode ⟨s.toArray⟩ pos).1],?_,zw.le_refl _,F.z4x hm rfl hL _ ⟨h0,by simp [World.vh,vl hb]⟩,RO (tm _) (mk_int _ _) (mk_int _ _)⟩;have hs:pos<(⟨s.toArray⟩:ByteArray).size:=by simpa [ByteArray.size] using hp
    simp only [Instr.next,Sem.run_bind,hg,Result.andThen_ok,hs,if_true,bB hb S_,Sem.run_pure]
   ·refine ⟨_,_,hv.2 hp,ι,W,.tuple #[.bool false],?_,zw.le_refl _,F,Wn (tm _)⟩;have hs:¬ pos<(⟨s.toArray⟩:ByteArray).size:=by simp [ByteArray.size];omega
    simp only [Instr.next,Sem.run_bind,hg,Result.andThen_ok,hs,if_false,Sem.run_pure]
  ·exact hv.elim
 ·exact hv.elim
def WF (x:V) (h:AH) (K:V->AH->Prop):Prop :=
 match x with
 | .ptr (some a)=>a.p=[]/\match h.m a.n with
  | some (.PZ none _ _ _)=>K (.yX [.bool false]) h
  | some (.PZ (some m) since seen last)=>match h.m m with
   | some (.BB kt et es st clock)=>since=clock/\last=clock /\
    (∀ (i:Nat) (k v:V) (b:Nat),es[i]?=some (k,v)->st[i]?=some b->b ∉ seen->K (.yX [.bool true,k,v]) (h.put a.n (.PZ (some m) clock (seen++[b]) clock))) /\
    ((∀ b∈st,b∈seen)->K (.yX [.bool false]) (h.put m (.mp kt et es)))
   | _=>False
  | _=>False
 | _=>False
theorem XM {kt et:TypeId}:∀ {es:List (V × V)} {xs:List MapEntry} {i:Nat} {e:MapEntry},vD P ι kt et es xs->xs[i]?=some e->∃ k v,es[i]?=some (k,v)/\rel P ι k e.key/\rel P ι v e.val
 | [],xs,i,e,h,k=>by simp only [vD] at h;subst h;simp at k
 | (k,v) :: es,xs,i,e,h,g=>by
  simp only [vD] at h;obtain ⟨e0,rest,rfl,h1,h2,h3⟩:=h;cases i with
  | zero=>simp at g;subst g;exact ⟨k,v,rfl,h1.1,h2.1⟩
  | succ i=>obtain ⟨k',v',a,b⟩:=XM h3 (by simpa using g);exact ⟨k',v',by simpa using a,b⟩
theorem z0R (F:ye P B ι h W) {ty:TypeId} {x:V} {y:Value} {K:V->AH->Prop} (hv:WF x h K) (r:rel P ι x y) :
 ∃ v h',K v h'/\pD P B ι W (Instr.next y false ty) v h':=by
 unfold WF at hv;split at hv
 ·rename_i a;obtain ⟨ha,hv⟩:=hv;split at hv
  ·rename_i s1 s2 s3 hm;obtain ⟨L,hL,h0,mb,hmb,hb⟩:=F.obj _ _ hm;obtain rfl:=ci r ha hL h0;simp only at hmb;subst hmb;have hg:(getObj L.wC).run P W=.ok (.mapIter none s1 s2.toArray s3) W:=by simp [getObj,Sem.run,hb]
   exact ⟨_,_,hv,ι,W,.tuple #[.bool false],by simp only [Instr.next,Sem.run_bind,hg,Result.andThen_ok,Sem.run_pure],zw.le_refl _,F,Wn (tm _)⟩
  ·rename_i m since seen last hm;split at hv
   ·rename_i kt et es st clock hmm;obtain ⟨rfl,rfl,hv1,hv2⟩:=hv;obtain ⟨L,hL,h0,mb,⟨M,hM,rfl⟩,hb⟩:=F.obj _ _ hm;obtain ⟨M',hM',xs,hbm,Y3,pN,rfl⟩:=F.obj _ _ hmm;rw [hM] at hM';cases hM';obtain rfl:=ci r ha hL h0;have hg:(getObj L.wC).run P W=.ok (.mapIter (some M.wC) last seen.toArray last) W:=by simp [getObj,Sem.run,hb]
    have hgm:(getObj M.wC).run P W=.ok (.map xs last) W:=by simp [getObj,Sem.run,hbm]
    have o8:(!seen.toArray.isEmpty&&!xs.isEmpty&&xs.all (·.born>=last))=false:=by
     cases hx:xs.toList with
     | nil =>
      have:xs=#[]:=by apply Array.ext';simpa using hx
      subst this;simp
     | cons x l =>
      have hlt:=pN.1 x (by rw [hx];simp);have:xs.all (·.born>=last)=false:=by
       rw [Array.all_eq_false'];exact ⟨x,by rw [<- Array.mem_toList_iff,hx];simp,by simp;omega⟩
      rw [this];simp
    have hdrop:(({ W with drawn:=W.drawn }:World))=W:=rfl
    -- the candidates
    obtain ⟨left,O1⟩:∃ left,left=xs.filter λe=>!seen.toArray.contains e.born:=⟨_,rfl⟩
    have J8:∀ e∈left.toList,e∈xs.toList/\e.born ∉ seen:=by
     intro e he;rw [O1,Array.toList_filter,List.mem_filter] at he;exact ⟨he.1,by simpa using he.2⟩
    have hold:left.filter (·.born<last)=left:=by
     apply Array.ext';rw [Array.toList_filter,List.filter_eq_self];intro e he;simpa using pN.1 e (J8 e he).1
    have hnew:left.filter (·.born>=last)=#[]:=by
     apply Array.ext';rw [Array.toList_filter];rw [List.filter_eq_nil_iff];intro e he;have:=pN.1 e (J8 e he).1;simp;omega
    by_cases BI:left=#[]
    ·have zcN:∀ b∈xs.toList.map (·.born),b∈seen:=by
      intro b hbb;obtain ⟨x,hx,rfl⟩:=List.mem_map.1 hbb;by_cases hc:x.born∈seen
      ·exact hc
      ·exfalso;have:x∈left.toList:=by rw [O1,Array.toList_filter,List.mem_filter];exact ⟨hx,by simpa using hc⟩
       rw [BI] at this;simp at this
     refine ⟨_,_,hv2 zcN,ι,W,.tuple #[.bool false],?_,zw.le_refl _,F.J7 hmm rfl hM ⟨xs,_,hbm,Y3,pN⟩,Wn (tm _)⟩;have hcc:((if (#[]:Array MapEntry).isEmpty then #[none] else #[])++((#[]:Array MapEntry)++#[]).map some:Array (Option MapEntry))=#[none]:=S_;have O0:(choose (.mapNext (#[none]:Array (Option MapEntry)).size)).run P W=.ok 0 W:=by
      rw [run_choose];simp [Question.forced]
     simp only [Instr.next,Sem.run_bind,hg,Result.andThen_ok,hgm,o8,Bool.false_eq_true,if_false,<- O1,BI,Array.filter_empty,hcc,O0];simp
    ·have wO:left.isEmpty=false:=by
      cases he:left.isEmpty with
      | false=>rfl
      | true=>exact absurd (Array.isEmpty_iff.1 he) BI
     have zcO:(if left.isEmpty then #[none] else #[])++(left++#[]).map some=left.map some:=by rw [wO];simp
     have fin:∀ (c:Nat) (W2:World),W2={ W with drawn:=W2.drawn }->c<left.size->∃ v h',K v h'/\∃ ι' W' x,
      (match (left.map some)[c]? with
       | some (some e)=>do
        setObj L.wC (.mapIter (some M.wC) last (seen.toArray.push e.born) last)
        pure (.tuple #[.bool true,e.key,e.val])
       | some none=>pure (.tuple #[.bool false])
       | none=>stuck "Next: no such candidate":Sem Value).run P W2=.ok x W'/\zw.le ι ι'/\ye P B ι' h' W'/\rel P ι' v x:=by
      intro c W2 hW2 hc;have hce:left[c]?=some left[c]:=by simp [hc]
      have hin:=J8 left[c] S_;obtain ⟨i,hi⟩:=List.getElem?_of_mem hin.1;obtain ⟨k,v,he,hk,hvv⟩:=XM Y3 hi;refine ⟨_,_,hv1 i k v left[c].born he (by simp [List.getElem?_map,hi]) hin.2,ι,World.vh W2 L.wC (.mapIter (some M.wC) last (seen.toArray.push left[c].born) last),.tuple #[.bool true,left[c].key,left[c].val],?_,zw.le_refl _,?_,RO (tm _) hk hvv⟩
      ·have Y1:W2.heap[L.wC]?=some (.mapIter (some M.wC) last seen.toArray last):=by rw [hW2];exact hb
       simp only [Array.getElem?_map,hce,Option.map_some,Sem.run_bind,bB Y1 S_,Result.andThen_ok,Sem.run_pure]
      ·rw [hW2,hJ];exact (F.z4x (o':=.PZ (some m) last (seen++[left[c].born]) last) hm rfl hL (.mapIter (some M.wC) last (seen.toArray.push left[c].born) last) ⟨h0,some M.wC,⟨M,hM,rfl⟩,by simp [World.vh,vl hb]⟩).drew _
     have hsz:0<left.size:=Array.size_pos_iff.2 BI;have hq:∃ c dn,(choose (.mapNext left.size)).run P W=.ok c { W with drawn:=dn }/\c<left.size:=by
      rw [run_choose];split
      ·exact ⟨0,W.drawn,rfl,hsz⟩
      ·exact ⟨_,_,rfl,Nat.mod_lt _ hsz⟩
     obtain ⟨c,dn,hq1,hq2⟩:=hq;obtain ⟨v,h',hk,ι',W',x,g1,g2,g3,g4⟩:=fin c { W with drawn:=dn } rfl hq2;refine ⟨v,h',hk,ι',W',x,?_,g2,g3,g4⟩;simp only [Instr.next,Sem.run_bind,hg,Result.andThen_ok,hgm,o8,Bool.false_eq_true,if_false,<- O1,hold,hnew,zcO,Array.size_map,hq1];exact g1
   ·exact hv.elim
  ·exact hv.elim
 ·exact hv.elim
def WB (x:V) (h:AH) (K:V->AH->Prop):Prop :=
 match x with
 | .ptr (some a)=>a.p=[]/\match h.m a.n with
  | some (.PZ (some m) _ seen last)=>match h.m m with
   | some (.BB _ _ es st clock)=>last=clock/\∃ (i:Nat) (b:Nat) (k v:V),seen.getLast?=some b/\st[i]?=some b/\es[i]?=some (k,v)/\K (.yX [k,v]) h
   | _=>False
  | _=>False
 | _=>False
theorem Ss (F:ye P B ι h W) {x:V} {y:Value} {K:V->AH->Prop} (hv:WB x h K) (r:rel P ι x y) :
 ∃ v h',K v h'/\pD P B ι W (Instr.entry y) v h':=by
 unfold WB at hv;split at hv
 ·rename_i a;obtain ⟨ha,hv⟩:=hv;split at hv
  ·rename_i m since seen last hm;split at hv
   ·rename_i kt et es st clock hmm;obtain ⟨rfl,i,b,k,v,hs,hi,he,hk⟩:=hv;obtain ⟨L,hL,h0,mb,⟨M,hM,rfl⟩,hb⟩:=F.obj _ _ hm;obtain ⟨M',hM',xs,hbm,Y3,pN,rfl⟩:=F.obj _ _ hmm;rw [hM] at hM';cases hM';obtain rfl:=ci r ha hL h0;have hg:(getObj L.wC).run P W=.ok (.mapIter (some M.wC) since seen.toArray last) W:=by simp [getObj,Sem.run,hb]
    have hgm:(getObj M.wC).run P W=.ok (.map xs last) W:=by simp [getObj,Sem.run,hbm]
    obtain ⟨e,hxe,hbe⟩:∃ e,xs.toList[i]?=some e/\e.born=b:=by
     rw [List.getElem?_map] at hi;cases hx:xs.toList[i]? with
     | none=>rw [hx] at hi;cases hi
     | some e=>rw [hx] at hi;simp at hi;exact ⟨e,rfl,hi⟩
    obtain ⟨k',v',h1,h2,h3⟩:=XM Y3 hxe;rw [he] at h1;cases h1;have zcP:xs.find? (·.born == b)=some e:=by
     rw [<- Array.find?_toList];have hin:e∈xs.toList:=List.mem_of_getElem? hxe;cases hf:xs.toList.find? (·.born == b) with
     | none =>
      rw [List.find?_eq_none] at hf;exact absurd (by simpa using hbe) (hf e hin)
     | some e2 =>
      have Y1:e2.born=b:=by simpa using List.find?_some hf
      have hin2:=List.mem_of_find?_eq_some hf;have hnd:=pN.2;obtain ⟨j,hj⟩:=List.getElem?_of_mem hin2;have sT:i=j:=by
       have a1:(xs.toList.map (·.born))[i]?=some b:=by simp [List.getElem?_map,hxe,hbe]
       have a2:(xs.toList.map (·.born))[j]?=some b:=by simp [List.getElem?_map,hj,Y1]
       have l1:i<(xs.toList.map (·.born)).length:=(List.getElem?_eq_some_iff.1 a1).1;exact (List.getElem?_inj l1 hnd).1 (a1.trans a2.symm)
      subst sT;rw [hxe] at hj;cases hj;rfl
    refine ⟨_,_,hk,ι,W,.tuple #[e.key,e.val],?_,zw.le_refl _,F,kH h2 h3⟩;have zcR:seen.toArray.back?=some b:=by simpa using hs
    simp only [Instr.entry,Sem.run_bind,hg,Result.andThen_ok,zcR,hgm,zcP];simp
   ·exact hv.elim
  ·exact hv.elim
 ·exact hv.elim
end
end Go.Ab
end
