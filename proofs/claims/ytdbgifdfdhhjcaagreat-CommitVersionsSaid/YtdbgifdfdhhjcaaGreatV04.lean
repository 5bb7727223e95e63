import Derived.Test.YtdbgifdfdhhjcaaGreatV03
set_option linter.unusedVariables false
set_option linter.unusedSimpArgs false
set_option linter.unusedSectionVars false
noncomputable section
namespace Go.Ab
section
open Go Go.RowKit
variable {P:Program} {ι ι':zw} {W W':World} {B:wy} {h h':AH}
theorem X1 {a:PA} {x:Addr} {L:Loc} (hl:zw.le ι ι') (ha:ι a.n=some L) (r:ZJ P ι' a x):ZJ P ι a x:=by
 obtain ⟨L',o,t,h1,h2,h3,h4⟩:=r;rw [hl _ _ ha] at h1;cases h1;exact ⟨L,o,t,ha,h2,h3,h4⟩
theorem eE {a:PA} {s c:Nat} {x:Addr} {L:Loc} (hl:zw.le ι ι') (ha:ι a.n=some L) (r:jx P ι' a s c x):jx P ι a s c x:=by
 obtain ⟨L',o,e,h1,h2,h3,h4,h5⟩:=r;rw [hl _ _ ha] at h1;cases h1;exact ⟨L,o,e,ha,h2,h3,h4,h5⟩
mutual
theorem oQ (hl:zw.le ι ι'):∀ (v:V) (cs dc:List Value),zL P ι v cs->zL P ι' v dc->zL P ι v dc
 | .agg l,cs,dc,r,r'=>by
  simp only [zL] at r r' ⊢;exact bV hl l cs dc r r'
 | .bool _,_,_,_,r'=>by simpa only [zL] using r'
 | .int _ _,_,_,_,r'=>by simpa only [zL] using r'
 | .str _,_,_,_,r'=>by simpa only [zL] using r'
 | .ptr none,_,_,_,r'=>by simpa only [zL] using r'
 | .ptr (some a),_,_,r,r'=>by
  simp only [zL] at r r' ⊢;obtain ⟨_,⟨L,_,_,h1,_⟩,_⟩:=r;obtain ⟨x,h2,h3⟩:=r';exact ⟨x,X1 hl h1 h2,h3⟩
 | .y8 none _,_,_,_,r'=>by simpa only [zL] using r'
 | .y8 (some (a,s)) n,_,_,r,r'=>by
  simp only [zL] at r r' ⊢;obtain ⟨_,_,_,⟨L,h1⟩,_⟩:=r;obtain ⟨x,c,h2,_,h3,h4⟩:=r';exact ⟨x,c,h2,⟨L,h1⟩,λhc=>eE hl h1 (h3 hc),h4⟩
 | .map none,_,_,_,r'=>by simpa only [zL] using r'
 | .map (some n),_,_,r,r'=>by
  simp only [zL] at r r' ⊢;obtain ⟨L,h1,_⟩:=r;obtain ⟨L',h2,h3⟩:=r';rw [hl _ _ h1] at h2;cases h2;exact ⟨L,h1,h3⟩
 | .fn f a b,_,_,r,r'=>by
  simp only [zL] at r r' ⊢;obtain ⟨a1,b1,h1,h2,_⟩:=r;obtain ⟨a2,b2,h3,h4,h5⟩:=r';exact ⟨a2,b2,ke hl a a1 a2 h1 h3,ke hl b b1 b2 h2 h4,h5⟩
 | .uf,_,_,_,r'=>by simpa only [zL] using r'
 | .mB t v,_,_,r,r'=>by
  simp only [zL] at r r' ⊢;obtain ⟨y,h1,h2,_⟩:=r;obtain ⟨y',h3,h4,h5⟩:=r';exact ⟨y',h3,oQ hl v _ _ h2 h4,h5⟩
 | .wb,_,_,_,r'=>by simpa only [zL] using r'
 | .yX l,_,_,r,r'=>by
  simp only [zL] at r r' ⊢;obtain ⟨vs,h1,_⟩:=r;obtain ⟨uz,h2,h3⟩:=r';exact ⟨uz,ke hl l vs uz h1 h2,h3⟩
 | .xF,_,_,r,_=>by simp only [zL] at r
theorem bV (hl:zw.le ι ι'):∀ (l:List V) (cs dc:List Value),y5 P ι l cs->y5 P ι' l dc->y5 P ι l dc
 | [],_,_,_,r'=>by simpa only [y5] using r'
 | v :: l,_,_,r,r'=>by
  simp only [y5] at r r' ⊢;obtain ⟨a,b,h1,h2,_⟩:=r;obtain ⟨a',b',h3,h4,h5⟩:=r';exact ⟨a',b',oQ hl v a a' h1 h3,bV hl l b b' h2 h4,h5⟩
theorem ke (hl:zw.le ι ι'):∀ (l:List V) (xs xs':List Value),wo P ι l xs->wo P ι' l xs'->wo P ι l xs'
 | [],_,_,_,r'=>by simpa only [wo] using r'
 | v :: l,_,_,r,r'=>by
  simp only [wo] at r r' ⊢;obtain ⟨y,ys,h1,h2,_⟩:=r;obtain ⟨y',ys',h3,h4,h5⟩:=r';refine ⟨y',ys',?_,ke hl l ys ys' h2 h4,h5⟩;rcases h3 with h3 | ⟨h3,Y4⟩
  ·exact .inl h3
  ·rcases h1 with h1 | ⟨_,h1⟩
   ·exact .inl h1
   ·exact .inr ⟨h3,oQ hl v _ _ h1 Y4⟩
end
theorem Vr (hl:zw.le ι ι') {v:V} {x x':Value} (r:rel P ι v x) (r':rel P ι' v x'):rel P ι v x':=by
 rcases r' with h3 | ⟨h3,Y4⟩
 ·exact .inl h3
 ·rcases r with h1 | ⟨_,h1⟩
  ·exact .inl h1
  ·exact .inr ⟨h3,oQ hl v _ _ h1 Y4⟩
theorem gT (hl:zw.le ι ι') {kt et:TypeId}:∀ {es:List (V × V)} {xs xs':List MapEntry},vD P ι kt et es xs->vD P ι' kt et es xs'->vD P ι kt et es xs'
 | [],_,_,_,r'=>by simpa only [vD] using r'
 | (k,v) :: es,_,_,r,r'=>by
  simp only [vD] at r r' ⊢;obtain ⟨e,rest,_,h2,h3,h4⟩:=r;obtain ⟨e',zcY,g1,g2,g3,g4⟩:=r';exact ⟨e',zcY,g1,⟨Vr hl h2.1 g2.1,g2.2⟩,⟨Vr hl h3.1 g3.1,g3.2⟩,gT hl h4 g4⟩
theorem Oy (hl:zw.le ι ι') {L:Loc} {o:AO} (r:pG P ι W L o) (r':pG P ι' W' L o):pG P ι W' L o:=by
 cases o with
 | cells own ty v =>
  obtain ⟨_,_,_,b0,_,_,_,_,_,_,r6,_⟩:=r;obtain ⟨h1,h2,a,b,c,elem,fr,h3,h4,h5,h6,h7⟩:=r';exact ⟨h1,h2,a,b,c,elem,fr,h3,h4,h5,oQ hl v b0 b r6 h6,h7⟩
 | mp kt et es =>
  obtain ⟨_,_,_,r2,_⟩:=r;obtain ⟨xs,c,h1,h2,h3⟩:=r';exact ⟨xs,c,h1,gT hl r2 h2,h3⟩
 | BB kt et es st c =>
  obtain ⟨_,_,r2,_⟩:=r;obtain ⟨xs,h1,h2,h3⟩:=r';exact ⟨xs,h1,gT hl r2 h2,h3⟩
 | BC s p=>exact r'
 | PZ m a b c =>
  obtain ⟨_,_,r1,_⟩:=r;obtain ⟨h0,mb,h1,h2⟩:=r';refine ⟨h0,mb,?_,h2⟩;cases m with
  | none=>exact h1
  | some n =>
   obtain ⟨M,g1,_⟩:=r1;obtain ⟨M',k1,k2⟩:=h1;rw [hl _ _ g1] at k1;cases k1;exact ⟨M,g1,k2⟩
theorem ye.forget (F:ye P B ι h W) (F':ye P B ι' h' W') (hl:zw.le ι ι') (hs:∀ n,n<h.next->h'.m n=h.m n):ye P B ι h W' where
 obj:=λn o hm=>by
  obtain ⟨L,h1,h2⟩:=F.obj n o hm;have hn:n<h.next:=by
   rcases Nat.lt_or_ge n h.next with k | k
   ·exact k
   ·rw [F.fresh n k] at h1;cases h1
  obtain ⟨L',h3,h4⟩:=F'.obj n o (by rw [hs n hn];exact hm);rw [hl _ _ h1] at h3;cases h3;exact ⟨L,h1,Oy hl h2 h4⟩
 fresh:=F.fresh
 apart:=F.apart
 free:=F.free
 frame:=F'.frame
 os:=F'.os
 tape:=F'.tape
 output:=F'.output
 size:=F'.size
mutual
def tK (m:Nat->Bool):V->Bool
 | .bool _=>true
 | .int _ _=>true
 | .str _=>true
 | .ptr none=>true
 | .ptr (some a)=>m a.n
 | .y8 none _=>true
 | .y8 (some (a,_)) _=>m a.n
 | .agg l=>oh m l
 | .map none=>true
 | .map (some n)=>m n
 | .uf=>true
 | .mB _ v=>tK m v
 | .wb=>true
 | .yX l=>oh m l
 | .fn _ _ _=>false
 | .xF=>false
def oh (m:Nat->Bool):List V->Bool
 | []=>true
 | v :: l=>tK m v&&oh m l
end
mutual
theorem lj {m:Nat->Bool} (hm:∀ n,m n=true->∃ L,ι n=some L) (hl:zw.le ι ι'):∀ (v:V) (cs:List Value),tK m v=true->zL P ι' v cs->zL P ι v cs
 | .agg l,cs,ho,r=>by
  simp only [tK] at ho;simp only [zL] at r ⊢;exact Yc hm hl l cs ho r
 | .bool _,_,_,r=>by simpa only [zL] using r
 | .int _ _,_,_,r=>by simpa only [zL] using r
 | .str _,_,_,r=>by simpa only [zL] using r
 | .ptr none,_,_,r=>by simpa only [zL] using r
 | .ptr (some a),_,ho,r=>by
  simp only [tK] at ho;simp only [zL] at r ⊢;obtain ⟨L,hL⟩:=hm _ ho;obtain ⟨x,h2,h3⟩:=r;exact ⟨x,X1 hl hL h2,h3⟩
 | .y8 none _,_,_,r=>by simpa only [zL] using r
 | .y8 (some (a,s)) n,_,ho,r=>by
  simp only [tK] at ho;simp only [zL] at r ⊢;obtain ⟨L,hL⟩:=hm _ ho;obtain ⟨x,c,h2,_,h3,h4⟩:=r;exact ⟨x,c,h2,⟨L,hL⟩,λhc=>eE hl hL (h3 hc),h4⟩
 | .map none,_,_,r=>by simpa only [zL] using r
 | .map (some n),_,ho,r=>by
  simp only [tK] at ho;simp only [zL] at r ⊢;obtain ⟨L,hL⟩:=hm _ ho;obtain ⟨L',h2,h3⟩:=r;rw [hl _ _ hL] at h2;cases h2;exact ⟨L,hL,h3⟩
 | .uf,_,_,r=>by simpa only [zL] using r
 | .mB t v,_,ho,r=>by
  simp only [tK] at ho;simp only [zL] at r ⊢;obtain ⟨y,h3,h4,h5⟩:=r;exact ⟨y,h3,lj hm hl v _ ho h4,h5⟩
 | .wb,_,_,r=>by simpa only [zL] using r
 | .yX l,_,ho,r=>by
  simp only [tK] at ho;simp only [zL] at r ⊢;obtain ⟨vs,h2,h3⟩:=r;exact ⟨vs,U0 hm hl l vs ho h2,h3⟩
 | .fn _ _ _,_,ho,_=>by simp [tK] at ho
 | .xF,_,ho,_=>by simp [tK] at ho
theorem Yc {m:Nat->Bool} (hm:∀ n,m n=true->∃ L,ι n=some L) (hl:zw.le ι ι'):∀ (l:List V) (cs:List Value),oh m l=true->y5 P ι' l cs->y5 P ι l cs
 | [],_,_,r=>by simpa only [y5] using r
 | v :: l,_,ho,r=>by
  simp only [oh,Bool.and_eq_true] at ho;simp only [y5] at r ⊢;obtain ⟨a,b,h3,h4,h5⟩:=r;exact ⟨a,b,lj hm hl v a ho.1 h3,Yc hm hl l b ho.2 h4,h5⟩
theorem U0 {m:Nat->Bool} (hm:∀ n,m n=true->∃ L,ι n=some L) (hl:zw.le ι ι'):∀ (l:List V) (xs:List Value),oh m l=true->wo P ι' l xs->wo P ι l xs
 | [],_,_,r=>by simpa only [wo] using r
 | v :: l,_,ho,r=>by
  simp only [oh,Bool.and_eq_true] at ho;simp only [wo] at r ⊢;obtain ⟨y,ys,h3,h4,h5⟩:=r;refine ⟨y,ys,?_,U0 hm hl l ys ho.2 h4,h5⟩;rcases h3 with h3 | ⟨h3,Y4⟩
  ·exact .inl h3
  ·exact .inr ⟨h3,lj hm hl v _ ho.1 Y4⟩
end
theorem Q9 {m:Nat->Bool} (hm:∀ n,m n=true->∃ L,ι n=some L) (hl:zw.le ι ι') {v:V} {x:Value} (ho:tK m v=true) (r:rel P ι' v x):rel P ι v x:=by
 rcases r with h3 | ⟨h3,Y4⟩
 ·exact .inl h3
 ·exact .inr ⟨h3,lj hm hl v _ ho Y4⟩
end
section
open Go Go.RowKit
variable {P:Program} {ι ι':zw} {W W':World} {B B':wy} {h h':AH}
theorem MC:∀ {v:V} {cs:List Value},tK (λ_=>false) v=true->zL P ι v cs->∀ ι',zL P ι' v cs:=by
 intro v cs ho r ι';have h0:zL P (λ_=>none) v cs:=lj (m:=λ_=>false) (λ_ h=>by cases h) (λn L h=>by cases h) v cs ho r;exact md (λn L h=>by cases h) v cs h0
def Wv:AO->Bool
 | .cells own _ v=>own&&tK (λ_=>false) v
 | .mp _ _ es=>es.isEmpty
 | _=>false
theorem Kh {o:AO} {L:Loc} (ho:Wv o=true) (r:pG P ι W L o) (hb:W'.heap[L.wC]?=W.heap[L.wC]?):pG P ι' W' L o:=by
 cases o with
 | cells own ty v =>
  simp only [Wv,Bool.and_eq_true] at ho;obtain ⟨h1,h2,a,b,c,elem,fr,h3,h4,h5,h6,h7⟩:=r;exact ⟨h1,h2,a,b,c,elem,fr,by rw [hb];exact h3,h4,h5,MC ho.2 h6 ι',h7⟩
 | mp kt et es =>
  simp only [Wv,List.isEmpty_iff] at ho;subst ho;obtain ⟨xs,c,h1,h2,h3⟩:=r;exact ⟨xs,c,by rw [hb];exact h1,by simpa only [vD] using h2,h3⟩
 | _=>cases ho
def tt (P:Program) (ρ:Operand->V) (op:Op):Option (AO × (Nat->V)) :=
 match op with
 | .alloc t=>match xk P t with
  | some z=>if zf P z t&&tK (λ_=>false) z then some (.cells true (.one t) z,λn=>.ptr (some ⟨n,.one t,[]⟩)) else none
  | none=>none
 | .makeSlice t l c=>match wU P xD t (ρ l) (ρ c) with
  | some (.y8 (some (⟨_,.row e,[]⟩,0)) m,h)=>match h.m 0 with
   | some o=>if Wv o then some (o,λn=>.y8 (some (⟨n,.row e,[]⟩,0)) m) else none
   | none=>none
  | _=>none
 | _=>none
def zb9 (o:AO) (mk:Nat->V):Prop:=(∃ t own z,o=.cells own (.one t) z/\mk=λn=>.ptr (some ⟨n,.one t,[]⟩))\/(∃ e own z m,o=.cells own (.row e) z/\mk=λn=>.y8 (some (⟨n,.row e,[]⟩,0)) m)
theorem jm {ρ:Operand->V} {op:Op} {o:AO} {mk:Nat->V} (hf:tt P ρ op=some (o,mk)):(∀ h,ZL P ρ h op=some (mk h.next,h.make o))/\o.w8=true/\Wv o=true/\zb9 o mk:=by
 unfold tt at hf;split at hf
 ·rename_i t;split at hf
  ·rename_i z hz;split at hf
   ·rename_i hc;rw [Bool.and_eq_true] at hc;simp only [Option.some.injEq,Prod.mk.injEq] at hf;obtain ⟨rfl,rfl⟩:=hf;refine ⟨λh=>by simp only [ZL,zV,hz,xR,hc.1,if_true],rfl,by simp only [Wv,hc.2,Bool.and_self],.inl ⟨t,true,z,rfl,rfl⟩⟩
   ·cases hf
  ·cases hf
 ·rename_i t l c;split at hf
  ·rename_i n e m h hm;split at hf
   ·rename_i o' ho;split at hf
    ·rename_i hold;simp only [Option.some.injEq,Prod.mk.injEq] at hf;obtain ⟨rfl,rfl⟩:=hf;have key:∃ z,o'=.cells true (.row e) z/\∀ h,wU P h t (ρ l) (ρ c)=some (.y8 (some (⟨h.next,.row e,[]⟩,0)) m,h.make o'):=by
      unfold wU at hm;split at hm
      ·rename_i k1 n1 k2 n2 e1 e2;split at hm
       ·rename_i e' hu;split at hm
        ·rename_i z hz;split at hm
         ·rename_i Zm;simp only [Option.some.injEq,Prod.mk.injEq,V.y8.injEq,PA.mk.injEq,nC.row.injEq,and_true] at hm;obtain ⟨⟨⟨rfl,rfl⟩,rfl⟩,rfl⟩:=hm;have:o'=.cells true (.row e') (.agg (List.replicate n1.toNat z)):=by
           simp only [AH.make,xD,if_true,Option.some.injEq] at ho;exact ho.symm
          subst this;refine ⟨_,rfl,λh=>?_⟩;unfold wU;rw [e1,e2];simp only [hu,hz];rw [if_pos Zm]
         ·cases hm
        ·cases hm
       ·cases hm
      ·cases hm
     obtain ⟨z,rfl,hk⟩:=key;exact ⟨λh=>by simp only [ZL];exact hk h,rfl,hold,.inr ⟨e,true,z,m,rfl,rfl⟩⟩
    ·cases hf
   ·cases hf
  ·cases hf
 ·cases hf
theorem B7 {o:AO} {mk:Nat->V} (hk:zb9 o mk) {n n':Nat} {L:Loc} {x:Value} (h1:ι n=some L) (h2:ι' n'=some L) (r:rel P ι (mk n) x):rel P ι' (mk n') x:=by
 rcases hk with ⟨t,own,z,rfl,rfl⟩ | ⟨e,own,z,m,rfl,rfl⟩
 ·obtain ⟨y,rfl,L',o,t',g1,g2,g3,g4⟩:=sw r;rw [h1] at g1;cases g1;exact Wq ⟨L,o,t',h2,g2,g3,g4⟩
 ·obtain ⟨y,cap,rfl,g1,g2⟩:=tP r;refine XQ g1 ⟨L,h2⟩ λhc=>?_;obtain ⟨L',o,e',k1,k2,k3,k4,k5⟩:=g2 hc;rw [h1] at k1;cases k1;exact ⟨L,o,e',h2,k2,k3,k4,k5⟩
structure JE (P:Program) (Bf:wy) (o:AO) (mk:Nat->V) (x:Value) (b:Nat):Prop where
 JK:Bf.F b
 obj:∃ L:Loc,L.wC=b/\(∀ W,W.heap[b]?=Bf.W0.heap[b]?->∀ ι,pG P ι W L o)/\∀ (ι:zw) n,ι n=some L->rel P ι (mk n) x
theorem JE.zA {Bf Bf':wy} {o:AO} {mk:Nat->V} {x:Value} {b:Nat} (f:JE P Bf o mk x b) (h1:Bf'.F b) (h2:Bf'.W0.heap[b]?=Bf.W0.heap[b]?):JE P Bf' o mk x b:=by
 obtain ⟨L,g1,g2,g3⟩:=f.obj;exact ⟨h1,L,g1,λW hW=>g2 W (hW.trans h2),g3⟩
def wy.drop (B:wy) (b:Nat):wy:=⟨λc=>B.F c/\c≠b,B.W0⟩
theorem FZ {B B':wy} (hb:wP B B') (b:Nat):wP (B.drop b) (B'.drop b) :=
 ⟨λc hc=>⟨⟨(hb.sub c hc.1).1,hc.2⟩,(hb.sub c hc.1).2⟩,hb.os,hb.tape,hb.output,hb.size⟩
theorem Fa {B B':wy} (hb:wP B B') {b:Nat} (hn:¬ B.F b):wP B (B'.drop b) :=
 ⟨λc hc=>⟨⟨(hb.sub c hc).1,λe=>hn (e▸hc)⟩,(hb.sub c hc).2⟩,hb.os,hb.tape,hb.output,hb.size⟩
def me (h0 h:AH):Prop:=∀ n o,h.m n=some o->o.w8=true\/∃ o',h0.m n=some o'/\o'.w8=false
def wy.hold (B:wy) (ι:zw) (h:AH) (W:World):wy:=⟨λb=>B.F b\/∃ n o L,h.m n=some o/\o.w8=false/\ι n=some L/\b=L.wC,W⟩
theorem ye.hold (F:ye P B ι h W):ye P (B.hold ι h W) ι h W/\wP B (B.hold ι h W)/\∀ n,(∃ o',h.m n=some o'/\o'.w8=false)->∃ L,ι n=some L/\(B.hold ι h W).F L.wC:=by
 refine ⟨⟨F.obj,F.fresh,F.apart,λn o L hm mv hL hb=>?_,λb hb=>⟨rfl,?_⟩,rfl,rfl,rfl,Nat.le_refl _⟩,⟨λc hc=>⟨.inl hc,(F.frame c hc).1⟩,F.os,F.tape,F.output,F.size⟩,λn q=>?_⟩
 ·rcases hb with hb | ⟨n',o',L',k1,k2,k3,k4⟩
  ·exact F.free n o L hm mv hL hb
  ·have wO:n≠n':=λe=>by subst e;rw [hm] at k1;cases k1;rw [mv] at k2;cases k2
   exact F.apart n n' o o' L L' hm k1 wO mv hL k3 k4
 ·rcases hb with hb | ⟨n',o',L',k1,k2,k3,k4⟩
  ·exact (F.frame b hb).2
  ·obtain ⟨L2,g1,g2⟩:=F.obj n' o' k1;rw [k3] at g1;cases g1;rw [k4];exact uA g2
 ·obtain ⟨o',k1,k2⟩:=q;obtain ⟨L,g1,_⟩:=F.obj n o' k1;exact ⟨L,g1,.inr ⟨n,o',L,k1,k2,g1,rfl⟩⟩
theorem ye.land (F:ye P B ι h W) {o:AO} {mk:Nat->V} {x:Value} {b:Nat} (ux:∀ n o L,h.m n=some o->ι n=some L->o.w8=true\/L.wC≠b) (f:JE P B o mk x b) :
 ∃ L,zw.le ι (zw.add ι h.next L)/\ye P (B.drop b) (zw.add ι h.next L) (h.make o) W/\rel P (zw.add ι h.next L) (mk h.next) x:=by
 obtain ⟨L,g1,g2,g3⟩:=f.obj;have hle:zw.le ι (zw.add ι h.next L):=zw.Zl (F.fresh _ (Nat.le_refl _));have hold:∀ k o',h.m k=some o'->k≠h.next:=by
  intro k o' hk e;obtain ⟨L',h1,_⟩:=F.obj k o' hk;rw [F.fresh k O_] at h1;cases h1
 have nm:∀ k,k≠h.next->zw.add ι h.next L k=ι k:=λk hk=>by simp [zw.add,hk]
 have nn:zw.add ι h.next L h.next=some L:=by simp [zw.add]
 have zcZ:∀ k o' L',h.m k=some o'->ι k=some L'->L'.wC≠b:=λk o' L' hk hL e=>(ux k o' L' hk hL).elim (λq=>F.free k o' L' hk q hL (e▸f.JK)) λq=>q e;refine ⟨L,hle,⟨?_,?_,?_,?_,?_,F.os,F.tape,F.output,F.size⟩,g3 _ _ nn⟩
 ·intro n o' hm;by_cases hn:n=h.next
  ·subst hn;simp only [AH.make,if_true,Option.some.injEq] at hm;subst hm;exact ⟨L,nn,g2 W (F.frame b f.JK).1 _⟩
  ·simp only [AH.make,if_neg hn] at hm;obtain ⟨L',h1,h2⟩:=F.obj n o' hm;exact ⟨L',by rw [nm n hn];exact h1,vR hle rfl h2⟩
 ·intro n hn;have hn:h.next+1<=n:=hn;rw [nm n O_];exact F.fresh n O_
 ·intro n n' o1 o2 L1 L2 h1 h2 wO ho e1 e2;by_cases hn:n=h.next
  ·subst hn;have qA:n'≠h.next:=λe=>wO e.symm;simp only [AH.make,if_neg qA] at h2;rw [nn] at e1;cases e1;rw [nm n' qA] at e2;rw [g1];exact λe=>zcZ n' o2 L2 h2 e2 e.symm
  ·simp only [AH.make,if_neg hn] at h1;rw [nm n hn] at e1;by_cases qA:n'=h.next
   ·subst qA;rw [nn] at e2;cases e2;rw [g1];exact zcZ n o1 L1 h1 e1
   ·simp only [AH.make,if_neg qA] at h2;rw [nm n' qA] at e2;exact F.apart n n' o1 o2 L1 L2 h1 h2 wO ho e1 e2
 ·intro n o1 L1 h1 ho e1 hF;by_cases hn:n=h.next
  ·subst hn;rw [nn] at e1;cases e1;exact hF.2 g1
  ·simp only [AH.make,if_neg hn] at h1;rw [nm n hn] at e1;exact F.free n o1 L1 h1 ho e1 hF.1
 ·intro c hc;exact F.frame c hc.1
theorem ye.float (K:Ok P) (F:ye P B ι h W) {ρ:Operand->V} {ρ':Operand->Value} (hρ:∀ x,rel P ι (ρ x) (ρ' x)) {op:Oper} {o:AO} {mk:Nat->V} (hf:tt P ρ op.op=some (o,mk)) :
 ∃ x W' b,(execOp ρ' op).run P W=.ok (.value x) W'/\¬ B.F b/\(∀ c,B.F c->c≠b)/\ye P ⟨λc=>B.F c\/c=b,W'⟩ ι h W'/\JE P ⟨λc=>B.F c\/c=b,W'⟩ o mk x b /\
  (∀ c,B.F c->W'.heap[c]?=B.W0.heap[c]?)/\W'.os=B.W0.os/\W'.tape=B.W0.tape/\W'.output=B.W0.output/\B.W0.heap.size<=W'.heap.size:=by
 obtain ⟨f1,f2,f3,f4⟩:=jm hf;obtain ⟨ι1,W',nx,k1,k2,k3,k4⟩:=S5 K F hρ (f1 h);rcases k4 with ⟨x,rfl,hx⟩ | ⟨_,z4A⟩
 ·have hm:(h.make o).m h.next=some o:=by simp [AH.make]
  obtain ⟨L,hL,sS⟩:=k3.obj _ _ hm;have nb:¬ B.F L.wC:=k3.free _ _ L hm f2 hL;have z0M:∀ n,n<h.next->(h.make o).m n=h.m n:=λn hn=>by simp [AH.make,show n≠h.next by omega]
  have F2:ye P B ι h W':=F.forget k3 k2 z0M;have hlt:=uA sS;refine ⟨x,W',L.wC,k1,nb,λc hc e=>nb (e▸hc),?_,⟨.inr rfl,L,rfl,λW2 h2 ι2=>Kh f3 sS h2,λι2 n h2=>B7 f4 hL h2 hx⟩,λc hc=>(F2.frame c hc).1,F2.os,F2.tape,F2.output,F2.size⟩;refine ⟨F2.obj,F2.fresh,F2.apart,?_,?_,rfl,rfl,rfl,Nat.le_refl _⟩
  ·intro n o' L' h1 h2 h3 h4;rcases h4 with h4 | h4
   ·exact F2.free n o' L' h1 h2 h3 h4
   ·have hn:n<h.next:=by
     obtain ⟨L'',g1,_⟩:=F.obj n o' h1;rcases Nat.lt_or_ge n h.next with k | k
     ·exact k
     ·rw [F.fresh n k] at g1;cases g1
    have nF:(h.make o).m n=some o':=by rw [z0M n hn];exact h1
    exact k3.apart n h.next o' o L' L nF hm O_ h2 (k2 _ _ h3) hL h4
  ·intro c hc;rcases hc with hc | hc
   ·exact ⟨rfl,(F2.frame c hc).2⟩
   ·exact ⟨rfl,by rw [hc];exact hlt⟩
 ·exfalso;rcases f4 with ⟨t,own,z,_,rfl⟩ | ⟨e,own,z,m,_,rfl⟩ <;> cases z4A
end
section
open Go Go.RowKit
variable {P:Program} {ι:zw} {W:World} {B:wy} {h:AH}
def pi (fl:List Nat) (l:Nat) (S:Nat->Bool):Nat->Bool:=λi=>S i&&(!fl.contains i||S l)
structure fI (P:Program) (N:Nat) (ops zQ:Array Oper) (fl:List Nat) (l:Nat) (zG:Nat->V) (e0:zJ) (ob:Nat->AO) (mk:Nat->Nat->V) (ds:Nat->Tmp):Prop where
 size:zQ.size=ops.size
 same:∀ j o,ops[j]?=some o->j ∉ fl->zQ[j]?=some o
 flt:∀ i∈fl,∃ o a',ops[i]?=some o/\zQ[i]?=some { o with after:=a' }/\o.guard=none/\o.dst=some (ds i)/\(∃ ei,Below ei (wK N zQ zG e0 (λ_=>true) i)/\tt P (xl ei) o.op=some (ob i,mk i)) /\
  (∀ e∈a',Region.binds .any e=true->(e.on∈fl->e.on<i)/\((∃ ol,ops[l]?=some ol/\∃ el∈ol.after,Region.binds .any el=true/\el.on=e.on)\/∃ el∈o.after,Region.binds .any el=true/\el.on=e.on))
 slot:∀ i∈fl,ds i<N/\zJ.get e0 (ds i)=.xF/\∀ (j:Nat) (o:Oper),ops[j]?=some o->o.dst=some (ds i)->j=i
 looks:∀ i∈fl,∀ o:Oper,ops[i]?=some o->∀ t∈o.looksAt ops,∀ i'∈fl,ds i'≠t
 lnot:l ∉ fl
 BM:l<ops.size
 zd1:∀ i∈fl,∃ ol,ops[l]?=some ol/\∃ e∈ol.after,Region.binds .any e=true/\e.on=i
 oth:∀ j o,ops[j]?=some o->j ∉ fl->j≠l->∀ e∈o.after,Region.binds .any e=true->e.on∈fl->∀ S,xb ops S->(∀ e∈o.after,Region.binds .any e=true->S e.on=true)->S l=true
 sorted:fl.Pairwise (·<·)
section
variable {N:Nat} {ops zQ:Array Oper} {fl:List Nat} {l:Nat} {zG:Nat->V} {e0:zJ} {ob:Nat->AO} {mk:Nat->Nat->V} {ds:Nat->Tmp} {mem:(Nat->Bool)->AH} {D:(Nat->Bool)->List AD} {ι0:zw}
theorem Zi {S:Nat->Bool} {i:Nat} (h1:S i=true) (h2:i∈fl->S l=true):pi fl l S i=true:=by
 unfold pi;rw [h1];by_cases hi:i∈fl
 ·simp [h2 hi]
 ·simp [hi]
theorem SU {S:Nat->Bool} {i:Nat} (h:pi fl l S i=true):S i=true/\(i∈fl->S l=true):=by
 unfold pi at h;simp only [Bool.and_eq_true,Bool.or_eq_true,Bool.not_eq_true',List.contains_eq_mem,decide_eq_false_iff_not] at h;exact ⟨h.1,λhi=>h.2.resolve_left λhn=>hn hi⟩
theorem fI.z0N (X:fI P N ops zQ fl l zG e0 ob mk ds) {S:Nat->Bool} (hc:xb ops S) {j:Nat} {o:Oper} (ho:ops[j]?=some o) (hj:j ∉ fl) (hS:∀ e∈o.after,Region.binds .any e=true->S e.on=true) (hl:j=l->S l=true) :
 ∀ e∈o.after,Region.binds .any e=true->pi fl l S e.on=true:=by
 intro e he hb;refine Zi (hS e he hb) λhf=>?_;by_cases qV:j=l
 ·exact hl qV
 ·exact X.oth j o ho hj qV e he hb hf S hc hS
theorem fI.closed (X:fI P N ops zQ fl l zG e0 ob mk ds) {S:Nat->Bool} (hc:xb ops S):xb zQ (pi fl l S):=by
 intro i o ho hi e he hb;obtain ⟨h1,h2⟩:=SU hi;by_cases hf:i∈fl
 ·obtain ⟨o',a',k1,k2,_,_,_,k6⟩:=X.flt i hf;rw [k2] at ho;cases ho;have hsl:=h2 hf;refine Zi ?_ λ_=>hsl;obtain ⟨k7,⟨ol,k8,el,k9,V6,JL⟩ | ⟨el,k9,V6,JL⟩⟩:=k6 e he hb
  ·rw [<- JL];exact hc l ol k8 hsl el k9 V6
  ·rw [<- JL];exact hc i o' k1 h1 el k9 V6
 ·have rD:ops[i]?=some o:=by
   have hlt:i<ops.size:=by have:=(Array.getElem?_eq_some_iff.1 ho).1;rw [X.size] at this;exact this
   have:=X.same i ops[i] (by simp [hlt]) hf;rw [ho] at this;cases this;simp [hlt]
  exact X.z0N hc rD hf (λe he hb=>hc i o rD h1 e he hb) (λe=>e▸h1) e he hb
theorem fI.ready (X:fI P N ops zQ fl l zG e0 ob mk ds) {S:Nat->Bool} (hc:xb ops S) {j:Nat} (hr:wR ops S j) (hj:j ∉ fl) (qV:j≠l) (mg:j<ops.size):wR zQ (pi fl l S) j:=by
 refine ⟨by unfold pi;rw [hr.1];rfl,λo ho e he hb=>?_⟩;have Zp:ops[j]?=some ops[j]:=by simp [mg]
 rw [X.same j _ Zp hj] at ho;cases ho;exact X.z0N hc Zp hj (λe he hb=>hr.2 _ Zp e he hb) (λe=>absurd e qV) e he hb
theorem QX {S:Nat->Bool} {j:Nat} (hj:j ∉ fl) (qV:j≠l):pi fl l (ww S j)=ww (pi fl l S) j:=by
 funext i;unfold pi;rw [xO S (Ne.symm qV)];by_cases hi:i=j
 ·subst hi;rw [uG,uG];simp [hj]
 ·rw [xO S hi,xO _ hi]
theorem EZ {S:Nat->Bool} {i:Nat} (hi:i∈fl) (hS:S l=false) (hil:i≠l):pi fl l (ww S i)=pi fl l S:=by
 funext k;unfold pi;rw [xO S (Ne.symm hil)];by_cases hk:k=i
 ·subst hk;simp [hi,hS]
 ·rw [xO S hk]
theorem Ox {D:List AD} {e:zJ} {a:Act} {d:Option Tmp} {x:Value} (r:wH P ι N D e a) (hd:∀ t,d=some t->zJ.get e t=.xF):wH P ι N D e (a.put d x):=by
 cases d with
 | none=>exact r
 | some t =>
  refine ⟨by simp [Act.put,r.1],r.2.1,λu=>?_⟩;by_cases hu:u=t
  ·subst hu;rw [hd u rfl];exact .inl rfl
  ·have:=r.2.2 u;rw [<- sI (a:=a) (o:={ (default:Oper) with dst:=some t }) (d:=u) (by simpa using λe=>hu e.symm) x] at this;exact this
theorem OG {a:Act} {d:Tmp} (x:Value) (hx:a.tmps.getD d undef=x):a.put (some d) x=a:=by
 have:a.tmps.setIfInBounds d x=a.tmps:=by
  apply Array.ext_getElem?;intro i;rw [Array.getElem?_setIfInBounds];split
  ·rename_i e;subst e;by_cases hd:d<a.tmps.size
   ·rw [if_pos hd];rw [Array.getD_eq_getD_getElem?] at hx;simp [hd] at hx ⊢;exact hx.symm
   ·rw [if_neg hd,Array.getElem?_eq_none (Nat.le_of_not_lt hd)]
  ·rfl
 unfold Act.put;simp only [this]
theorem Yl {S:Nat->Bool} {t:Nat} (h:∀ i,S i=true->(zQ[i]?).bind (·.dst)≠some t):∀ k,zJ.get (wK N zQ zG e0 S k) t=zJ.get e0 t
 | 0=>rfl
 | k+1=>by
  rw [sO,if_neg (by rintro ⟨h1,h2,_⟩;exact h k h1 h2)];exact Yl h k
def K1 (P:Program) (B:wy) (ι0:zw) (N:Nat) (D:(Nat->Bool)->List AD) (zQ:Array Oper) (fl:List Nat) (l:Nat) (ob:Nat->AO) (mk:Nat->Nat->V) (ds:Nat->Tmp) (zG:Nat->V) (mem:(Nat->Bool)->AH) (e0:zJ) (S:Nat->Bool) (a:Act) (W:World):Prop :=
 ∃ Bf,wP B Bf/\jG P Bf ι0 N D zQ zG mem e0 (pi fl l S) a W/\(S l=false->∃ bl:Nat->Nat,(∀ i∈fl,S i=true->¬ B.F (bl i)/\JE P Bf (ob i) (mk i) (a.tmps.getD (ds i) undef) (bl i)) /\
  ∀ i∈fl,∀ i'∈fl,S i=true->S i'=true->i≠i'->bl i≠bl i')
theorem Cj {o:Oper} {a:Act} {W:World} {K:Act->World->Prop} {Q:Exit->Act->World->Prop} {d:Tmp} (hd:o.dst≠some d) (hh:o.wp P a W K Q):o.wp P a W (λa' w'=>K a' w'/\a'.tmps.getD d undef=a.tmps.getD d undef) Q:=by
 unfold Oper.wp at *;generalize (execOp a.eval o).run P W=r at *;have g:=λx=>sI (a:=a) hd x;cases r with
 | ok n w' =>
  cases n <;> simp only [Oper.upon] at hh ⊢ <;>
   first
    | exact ⟨hh,g _⟩
    | exact ⟨hh,sI (a:={ a with defers:=_ :: a.defers }) hd _⟩
    | exact Calls.mono hh (λe w'' he=>by cases e <;> first | exact ⟨he,g _⟩ | exact he)
    | exact Rows.mono hh (λ_ _ he=>⟨he,g _⟩)
 | halt x w'=>cases x <;> simp only [Oper.upon] at hh ⊢ <;> exact hh
theorem On {j:Nat} {o:Oper} (ho:ops[j]?=some o) {a:Act} {W:World} {K:Act->World->Prop} {Q:Exit->Act->World->Prop} {d:Tmp} (hd:o.dst≠some d) (hh:wpOp P ops Q j K a W):wpOp P ops Q j (λa' w'=>K a' w'/\a'.tmps.getD d undef=a.tmps.getD d undef) a W:=by
 unfold wpOp at *;simp only [ho] at hh ⊢;split
 ·rename_i hw;simp only [hw,if_true] at hh;exact hh.imp (Cj hd) id
 ·rename_i hw;simp only [hw] at hh;exact ⟨hh,sI hd _⟩
theorem mc {j:Nat} {o:Oper} (ho:ops[j]?=some o) {a:Act} {W:World} {K:Act->World->Prop} {Q:Exit->Act->World->Prop} {ds:Nat->Tmp}:∀ (fl:List Nat),(∀ i∈fl,o.dst≠some (ds i))->wpOp P ops Q j K a W ->
 wpOp P ops Q j (λa' w'=>K a' w'/\∀ i∈fl,a'.tmps.getD (ds i) undef=a.tmps.getD (ds i) undef) a W
 | [],_,hh=>wpOp_mono (λ_ _ h=>⟨h,λ_ h=>by cases h⟩) hh
 | i :: fl,hd,hh=>wpOp_mono (λ_ _ h=>⟨h.1.1,λi' vK=>by
  rcases List.mem_cons.1 vK with rfl | vK
  ·exact h.2
  ·exact h.1.2 i' vK⟩) (On ho (hd i S_) (mc ho fl (λi' vK=>hd i' (by simp [vK])) hh))
theorem kg (hs:∀ i:Nat,(zQ[i]?).bind (λo:Oper=>o.dst)=(ops[i]?).bind (λo:Oper=>o.dst)) {j:Nat} {o:Oper} (h1:ops[j]?=some o) (h2:zQ[j]?=some o) {a:Act} {W:World} {K:Act->World->Prop} {Q:Exit->Act->World->Prop} (hh:wpOp P zQ Q j K a W):wpOp P ops Q j K a W:=by
 unfold wpOp at *;simp only [h1,h2] at hh ⊢;have:yielded zQ a.tmps=yielded ops a.tmps:=by
  funext i;unfold yielded;rw [hs i]
 rw [this] at hh;exact hh
theorem fI.NC (X:fI P N ops zQ fl l zG e0 ob mk ds) (i:Nat):(zQ[i]?).bind (·.dst)=(ops[i]?).bind (·.dst):=by
 rcases Nat.lt_or_ge i ops.size with hi | hi
 ·by_cases hf:i∈fl
  ·obtain ⟨o,a',k1,k2,_⟩:=X.flt i hf;rw [k1,k2];rfl
  ·have ho:ops[i]?=some ops[i]:=by simp [hi]
   rw [X.same i _ ho hf,ho]
 ·rw [Array.getElem?_eq_none hi,Array.getElem?_eq_none (by rw [X.size];exact hi)]
theorem Uy (K:Ok P) (hp:uH zQ=true) (qC:∀ i,wx N zQ i=none) (X:fI P N ops zQ fl l zG e0 ob mk ds) {S:Nat->Bool} (hco:xb ops S) (hS:∀ i∈fl,S i=true) (z0O:∀ ol,ops[l]?=some ol->∀ e∈ol.after,Region.binds .any e=true->S e.on=true)
 {held:Nat->Prop} (Zq:∀ n,held n->∃ L,ι0 n=some L/\B.F L.wC) (Zo:∀ i∈fl,∀ T,xb zQ T->wR zQ T i->(∀ n o,(mem T).m n=some o->o.w8=true\/held n)/\zG i=mk i (mem T).next/\mem (ww T i)=(mem T).make (ob i)/\D (ww T i)=D T) {a:Act} {W:World} {bl:Nat->Nat}
 (wO:∀ i∈fl,∀ i'∈fl,i≠i'->bl i≠bl i') :
 ∀ (todo dn:List Nat) (Bf:wy),fl=dn++todo->wP B Bf->(∀ i∈todo,¬ B.F (bl i)/\JE P Bf (ob i) (mk i) (a.tmps.getD (ds i) undef) (bl i))->xb zQ (λi=>S i&&(!fl.contains i||dn.contains i)) ->
 jG P Bf ι0 N D zQ zG mem e0 (λi=>S i&&(!fl.contains i||dn.contains i)) a W->∃ Bf',wP B Bf'/\jG P Bf' ι0 N D zQ zG mem e0 S a W/\xb zQ S
 | [],dn,Bf,gB,hb,_,hc,g=>by
  have:(λi=>S i&&(!fl.contains i||dn.contains i))=S:=by
   funext i;rw [List.append_nil] at gB;subst gB;cases S i <;> cases fl.contains i <;> rfl
  rw [this] at g hc;exact ⟨Bf,hb,g,hc⟩
 | i :: todo,dn,Bf,gB,hb,Ra,hc,g=>by
  have BN:i∈fl:=by rw [gB];simp
  have O2:=X.sorted;rw [gB] at O2;have hdn:∀ k∈dn,k<i:=λk hk=>(List.pairwise_append.1 O2).2.2 k hk i S_;have Th:i ∉ dn:=λh=>Nat.lt_irrefl _ (hdn i h);have hnt:i ∉ todo:=λh=>Nat.lt_irrefl _ ((List.pairwise_cons.1 (List.pairwise_append.1 O2).2.1).1 i h);obtain ⟨o,a',k1,k2,k3,k4,k5,k6⟩:=X.flt i BN;let T:Nat->Bool:=λi=>S i&&(!fl.contains i||dn.contains i)
  have hTi:T i=false:=by
   show (S i&&(!fl.contains i||dn.contains i))=false;simp [BN,Th]
  have BO:ww T i=λk=>S k&&(!fl.contains k||(dn++[i]).contains k):=by
   funext k;by_cases hk:k=i
   ·subst hk;rw [uG];simp [hS k BN]
   ·rw [xO T hk];show (S k&&(!fl.contains k||dn.contains k))=_;simp [hk]
  have hr:wR zQ T i:=by
   refine ⟨hTi,λo' rD e he hbb=>?_⟩;rw [k2] at rD;cases rD;obtain ⟨k7,k8⟩:=k6 e he hbb;show (S e.on&&(!fl.contains e.on||dn.contains e.on))=true;have h1:S e.on=true:=by
    rcases k8 with ⟨ol,k8,el,k9,V6,JL⟩ | ⟨el,k9,V6,JL⟩
    ·rw [<- JL];exact z0O ol k8 el k9 V6
    ·rw [<- JL];exact hco i o k1 (hS i BN) el k9 V6
   rw [h1];by_cases hf:e.on∈fl
   ·have:=k7 hf;have hm:e.on∈dn:=by
     rw [gB] at hf;rcases List.mem_append.1 hf with hf | hf
     ·exact hf
     ·rcases List.mem_cons.1 hf with hf | hf
      ·omega
      ·have:=(List.pairwise_cons.1 (List.pairwise_append.1 O2).2.1).1 _ hf;omega
    simp [hm]
   ·simp [hf]
  obtain ⟨y1,y2,y3,y4⟩:=Zo i BN T hc hr;obtain ⟨fn,ff⟩:=Ra i S_;obtain ⟨ι,B',hle,hB,F,r,_⟩:=g.ex;have ff':JE P B' (ob i) (mk i) (a.tmps.getD (ds i) undef) (bl i):=ff.zA (hB.sub _ ff.JK).1 (hB.sub _ ff.JK).2;obtain ⟨L,g1,g2,g3⟩:=ye.land F (λn o L hm hL=>(y1 n o hm).imp id λhh=>by
   obtain ⟨L',k1,k2⟩:=Zq n hh;have:=hle _ _ k1;rw [hL] at this;cases this;exact λe=>fn (e▸k2)) ff'
  have hx:rel P (zw.add ι (mem T).next L) (zG i) (a.tmps.getD (ds i) undef):=by rw [y2];exact g3
  have hre:=qv hp hc hr k2 (nX g1 r) hx;have BP:a.put ({ o with after:=a' }:Oper).dst (a.tmps.getD (ds i) undef)=a:=by
   show a.put o.dst _=a;rw [k4];exact OG _ rfl
  rw [BP] at hre;have gg:jG P (Bf.drop (bl i)) ι0 N D zQ zG mem e0 (ww T i) a W :=
   ⟨_,B'.drop (bl i),zw.le_trans hle g1,FZ hB _,by rw [y3];exact g2,by rw [y4];exact hre,λi d s dd hl=>by rw [qC i] at hl;cases hl⟩
  have hcl:xb zQ (ww T i):=hc.add hr;rw [BO] at gg hcl;refine Uy K hp qC X hco hS z0O Zq Zo wO todo (dn++[i]) (Bf.drop (bl i)) (by rw [gB];simp) (Fa hb fn) (λk hk=>?_) hcl gg;obtain ⟨h1,h2⟩:=Ra k (by simp [hk]);have BQ:k∈fl:=by rw [gB];simp [hk]
  have hki:k≠i:=λe=>hnt (e▸hk);exact ⟨h1,h2.zA ⟨h2.JK,wO k BQ i BN hki⟩ rfl⟩
theorem fU (K:Ok P) (hpo:uH ops=true) (hp:uH zQ=true) (qC:∀ i,wx N zQ i=none) (X:fI P N ops zQ fl l zG e0 ob mk ds) {S:Nat->Bool} {j:Nat} (z0Q:j ∉ fl->bW P N zQ zG mem D e0 j)
 {held:Nat->Prop} (Zq:∀ n,held n->∃ L,ι0 n=some L/\B.F L.wC) (z4E:j=l->∀ i∈fl,∀ T,xb zQ T->wR zQ T i->(∀ n o,(mem T).m n=some o->o.w8=true\/held n)/\zG i=mk i (mem T).next/\mem (ww T i)=(mem T).make (ob i)/\D (ww T i)=D T)
 (mg:j<ops.size) (hc:xb ops S) (hr:wR ops S j) {a:Act} {W:World} (g:K1 P B ι0 N D zQ fl l ob mk ds zG mem e0 S a W) (Q:Exit->Act->World->Prop) :
 wpOp P ops Q j (K1 P B ι0 N D zQ fl l ob mk ds zG mem e0 (ww S j)) a W:=by
 obtain ⟨Bf,hb,gd,Ra⟩:=g;have Zp:ops[j]?=some ops[j]:=by simp [mg]
 by_cases hf:j∈fl
 ·-- a variable is made
  have qV:j≠l:=λe=>X.lnot (e▸hf);have hSl:S l=false:=by
   cases hs:S l with
   | false=>rfl
   | true =>
    obtain ⟨ol,g1,e,g2,g3,g4⟩:=X.zd1 j hf;have:=hc l ol g1 hs e g2 g3;rw [g4,hr.1] at this;cases this
  obtain ⟨o,a',k1,k2,k3,k4,⟨ei,k5',k5⟩,k6⟩:=X.flt j hf;obtain ⟨s1,s2,s3⟩:=X.slot j hf;obtain ⟨ι,B',hle,hB,F,r,_⟩:=gd.ex;have eqK:∀ S k,wK N zQ zG e0 S k=wK N ops zG e0 S k:=by
   intro S k;induction k with
   | zero=>rfl
   | succ k ih=>simp only [wK,ih,X.NC k]
  have re:wH P ι N (D (pi fl l S)) (zJ.zA (o.looksAt ops) ei) a:=by
   refine ow r λt=>?_;by_cases ht:t∈o.looksAt ops
   ·rw [sY _ _ _ ht];have h1:zJ.get (wK N zQ zG e0 (pi fl l S) zQ.size) t=zJ.get (wK N ops zG e0 (λ_=>true) j) t:=by
     rw [eqK,X.size,rK (S:=pi fl l S) (S':=S) t ops.size (λi hi hd=>?_),cS hpo hc hr k1 ht];have hnf:i ∉ fl:=by
      intro hif;obtain ⟨oi,_,g1,_,_,g4,_⟩:=X.flt i hif;rw [g1] at hd;have hd:oi.dst=some t:=hd;rw [g4] at hd;exact X.looks j hf o k1 t ht i hif (by simpa using hd)
     unfold pi;simp [hnf]
    rcases k5' t with h | h
    ·exact .inl h
    ·right;rw [h,eqK,h1]
   ·left
    have:∀ l:List Nat,t ∉ l->zJ.get (zJ.zA l ei) t=.xF:=by
     intro l;induction l with
     | nil=>intro _;rfl
     | cons u l ih =>
      intro hu;simp only [zJ.zA,List.map_cons,zJ.get];rw [if_neg (by rintro rfl;exact hu S_)];exact ih λh=>hu (by simp [h])
    exact this _ ht
  have hρ:∀ x,rel P ι (xl (zJ.zA (o.looksAt ops) ei) x) (a.eval x):=vG re;have k5:tt P (xl (zJ.zA (o.looksAt ops) ei)) o.op=some (ob j,mk j):=by
   rw [<- k5];have hk:=λx hx=>pm (ops:=ops) (e:=ei) (o:=o) x hx;unfold tt;cases qU:o.op <;> first | rfl | skip
   rename_i t l c;rw [qU] at hk;simp only [Op.operands] at hk;simp only;rw [hk l S_,hk c S_]
  obtain ⟨x,W',b,m1,m2,m3,m4,m5,m6,m7,m8,m9,m10⟩:=ye.float K F hρ k5;unfold wpOp;rw [k1];simp only;rw [if_pos (by simp [Region.wanted,k3])]
  left
  unfold Oper.wp;rw [m1,Oper.upon_value];have nbf:¬ Bf.F b:=λh=>m2 (hB.sub b h).1;have hBf:wP Bf ⟨λc=>Bf.F c\/c=b,W'⟩:=⟨λc hc=>⟨.inl hc,(m6 c (hB.sub c hc).1).trans (hB.sub c hc).2⟩,m7.trans hB.os,m8.trans hB.tape,m9.trans hB.output,Nat.le_trans hB.size m10⟩
  have hBB:wP ⟨λc=>Bf.F c\/c=b,W'⟩ ⟨λc=>B'.F c\/c=b,W'⟩:=⟨λc hc=>⟨hc.imp (λh=>(hB.sub c h).1) id,rfl⟩,rfl,rfl,rfl,Nat.le_refl _⟩
  have hund:zJ.get (wK N zQ zG e0 (pi fl l S) zQ.size) (ds j)=.xF:=by
   rw [Yl (λi hi=>?_) _,s2];rw [X.NC i];intro hd;cases hoi:ops[i]? with
   | none=>rw [hoi] at hd;cases hd
   | some o' =>
    rw [hoi] at hd;have:=s3 i o' hoi hd;subst this;rw [(SU hi).2 hf |>.symm.trans hSl |>.symm] at hSl;have:=(SU hi).1;rw [hr.1] at this;cases this
  refine ⟨_,hb.trans hBf,?_,λ_=>?_⟩
  ·rw [EZ hf hSl qV];refine ⟨ι,_,hle,hBB,m4,?_,λi d s dd hl=>by rw [qC i] at hl;cases hl⟩;rw [k4];exact Ox r λt ht=>by cases ht;exact hund
  ·obtain ⟨bl,q1,q2⟩:=Ra hSl;refine ⟨λi=>if i=j then b else bl i,λi hi hs=>?_,λi hi i' vK hs dO wO=>?_⟩
   ·show ¬ B.F (if i=j then b else bl i)/\JE P _ (ob i) (mk i) _ (if i=j then b else bl i);by_cases sT:i=j
    ·subst sT;rw [if_pos rfl];refine ⟨λh=>nbf (hb.sub b h).1,?_⟩;have hx:(a.put o.dst x).tmps.getD (ds i) undef=x:=by
      rw [k4];simp only [Act.put,Array.getD_eq_getD_getElem?];have:=r.1;simp [this,s1]
     rw [hx];exact m5.zA (.inr rfl) rfl
    ·rw [if_neg sT];rw [xO S sT] at hs;obtain ⟨h1,h2⟩:=q1 i hi hs;refine ⟨h1,?_⟩;have hx:(a.put o.dst x).tmps.getD (ds i) undef=a.tmps.getD (ds i) undef:=by
      refine sI (λhd=>?_) x;exact sT ((X.slot i hi).2.2 j o k1 hd).symm
     rw [hx];exact h2.zA (.inl h2.JK) (m6 _ (hB.sub _ h2.JK).1 |>.trans (hB.sub _ h2.JK).2)
   ·show (if i=j then b else bl i)≠(if i'=j then b else bl i');by_cases sT:i=j
    ·subst sT;rw [if_pos rfl,if_neg (Ne.symm wO)];rw [xO S (Ne.symm wO)] at dO;exact λe=>nbf (e▸(q1 i' vK dO).2.JK)
    ·rw [if_neg sT];rw [xO S sT] at hs;by_cases z4F:i'=j
     ·rw [if_pos z4F];exact λe=>nbf (e▸(q1 i hi hs).2.JK)
     ·rw [if_neg z4F];rw [xO S z4F] at dO;exact q2 i hi i' vK hs dO wO
 ·have hvj:=X.same j _ Zp hf;by_cases qV:j=l
  ·-- the eh get z0E names,and the operation goes on
   subst qV;obtain ⟨bl,q1,q2⟩:=Ra hr.1;have hS:∀ i∈fl,S i=true:=λi hi=>by
    obtain ⟨ol,g1,e,g2,g3,g4⟩:=X.zd1 i hi;rw [<- g4];exact hr.2 ol g1 e g2 g3
   have hvis:pi fl j S=λi=>S i&&(!fl.contains i||([]:List Nat).contains i):=by
    funext i;unfold pi;rw [hr.1];rfl
   have hcv:=X.closed hc;rw [hvis] at gd hcv;obtain ⟨Bf',b1,b2,b3⟩:=Uy (B:=B) K hp qC X hc hS (λol ho e he hb=>hr.2 ol ho e he hb) Zq (z4E rfl) (λi hi i' vK wO=>q2 i hi i' vK (hS i hi) (hS i' vK) wO) fl [] Bf S_ hb (λi hi=>q1 i hi (hS i hi)) hcv gd;have hrv:wR zQ S j:=⟨hr.1,λo ho e he hb=>by rw [hvj] at ho;cases ho;exact hr.2 _ Zp e he hb⟩
   have st:=gM K hp (z0Q hf) b3 hrv b2 Q;refine wpOp_mono (λa' w' g'=>⟨Bf',b1,?_,λh=>by rw [uG] at h;cases h⟩) (kg X.NC Zp hvj st);have:pi fl j (ww S j)=ww S j:=by
    funext i;unfold pi;rw [uG];simp
   rw [this];exact g'
  ·have st:=gM K hp (z0Q hf) (X.closed hc) (X.ready hc hr hf qV mg) gd Q;have st2:=mc (ds:=ds) Zp fl (λi hi hd=>hf ((X.slot i hi).2.2 j _ Zp hd▸hi)) (kg X.NC Zp hvj st);refine wpOp_mono (λa' w' g'=>⟨Bf,hb,by rw [QX hf qV];exact g'.1,λh=>?_⟩) st2;rw [xO S (Ne.symm qV)] at h;obtain ⟨bl,q1,q2⟩:=Ra h;have ne:∀ i∈fl,i≠j:=λi hi e=>hf (e▸hi);refine ⟨bl,λi hi hs=>?_,λi hi i' vK hs dO wO=>?_⟩
   ·rw [xO S (ne i hi)] at hs;rw [g'.2 i hi];exact q1 i hi hs
   ·rw [xO S (ne i hi)] at hs;rw [xO S (ne i' vK)] at dO;exact q2 i hi i' vK hs dO wO
theorem fz {I:(Nat->Bool)->Act->World->Prop} {Q:Exit->Act->World->Prop} (Rg:eG ops=true) (step:∀ S j a W,j<ops.size->xb ops S->wR ops S j->I S a W->wpOp P ops Q j (I (ww S j)) a W)
 (hQ:∀ S a w,(∀ i,i<ops.size->S i=true)->I S a w->Q .normal a w) :
 ∀ (fuel:Nat) (yP:Array Bool) (a:Act) (W:World),yP.size=ops.size->left ops.size yP<=fuel->xb ops (tG yP)->I (tG yP) a W->wpAny P .any ops Q fuel yP a W
 | 0,yP,a,W,hs,hf,hc,g=>by
  have dQ:Region.ready .any ops yP=[]:=by
   cases hr:Region.ready .any ops yP with
   | nil=>rfl
   | cons j l =>
    exfalso;obtain ⟨hj,hS,_⟩:=iQ hs (j:=j) (by rw [hr];simp);have h0:left ops.size yP=0:=O_;unfold left at h0;rw [List.countP_eq_zero] at h0;have:=h0 j (List.mem_range.2 hj);unfold tG at hS;simp [hS] at this
  exact ⟨dQ,hQ _ _ _ (nQ Rg hs dQ) g⟩
 | fuel+1,yP,a,W,hs,hf,hc,g=>by
  refine ⟨λdQ=>hQ _ _ _ (nQ Rg hs dQ) g,λj hj=>?_⟩;obtain ⟨mg,hr⟩:=iQ hs hj;refine wpOp_mono ?_ (step _ j a W mg hc hr g);intro a' w' g';have qz:=Yg (yP:=yP) (j:=j) O_;refine fz Rg step hQ fuel _ a' w' (by simp [hs]) ?_ ?_ ?_
  ·have:=Ui (n:=ops.size) hs mg hr.1;omega
  ·rw [qz];exact hc.add hr
  ·rw [qz];exact g'
theorem OP (K:Ok P) (hm:P.follows .mixedOrders=true) (hpo:uH ops=true) (hp:uH zQ=true) (Rg:eG ops=true) (qC:∀ i,wx N zQ i=none) (X:fI P N ops zQ fl l zG e0 ob mk ds) (Zo:∀ j,j<ops.size->bW P N zQ zG mem D e0 j)
 (z4E:∀ i∈fl,∀ T,xb zQ T->wR zQ T i->me (mem λ_=>false) (mem T)/\zG i=mk i (mem T).next/\mem (ww T i)=(mem T).make (ob i)/\D (ww T i)=D T) {gc:AH}
 (hf:∀ S,(∀ i,i<ops.size->S i=true)->mem S=gc) {a:Act} {D0:List AD} (hD0:∀ S,D S=D0) (F:ye P B ι (mem λ_=>false) W) (r:wH P ι N D0 e0 a) {id:Nat} {e:zJ} (he:Below e (wK N zQ zG e0 (λ_=>true) zQ.size))
 {Q:yT->zJ->AH->Prop} (hQ:Q .normal e gc):(Code.region id ops true).wp P (uK P B ι N D0 Q) a W:=by
 have hS0:tG (Array.replicate ops.size false)=λ_=>false:=by
  funext i;unfold tG;by_cases hi:i<ops.size <;> simp [hi]
 have UV:∀ k,wK N zQ zG e0 (λ_=>false) k=e0:=by
  intro k;induction k with
  | zero=>rfl
  | succ k ih=>simp only [wK,cond_false,ih]
 refine wp_region_any hm (fz (I:=K1 P (B.hold ι (mem λ_=>false) W) ι N D zQ fl l ob mk ds zG mem e0) Rg (λS j a W mg hc hr g=>fU K hpo hp qC X (λ_=>Zo j mg) F.hold.2.2 (λ_=>z4E) mg hc hr g _) ?_ ops.size _ a _ S_ ?_ ?_ ?_)
 ·intro S a w hS g;obtain ⟨Bf,h0,g,_⟩:=g;obtain ⟨ι',B',h1,h2,h3,h4,h5⟩:=g.ex;have hv:∀ i,i<ops.size->pi fl l S i=true:=λi hi=>Zi (hS i hi) λ_=>hS l X.BM;refine ⟨ι',gc,e,.normal,h1,?_,?_,trivial,hQ⟩
  ·rw [hf _ hv] at h3;exact h3.V5 (F.hold.2.1.trans (h0.trans h2))
  ·rw [hD0] at h4;refine ow h4 λt=>?_;rw [rK (S:=pi fl l S) (S':=λ_=>true) t zQ.size λi hi _=>hv i (by rw [<- X.size];exact hi)];exact he t
 ·unfold left;refine Nat.le_trans List.countP_le_length ?_;simp
 ·rw [hS0];intro i o ho h;cases h
 ·rw [hS0];have hv0:pi fl l (λ_=>false)=λ_=>false:=by funext i;rfl
  refine ⟨_,wP.refl _,⟨ι,_,zw.le_refl _,wP.refl _,by rw [hv0];exact F.hold.1.drew _,?_,?_⟩,λ_=>⟨λ_=>0,(λi _ h=>nomatch h),(λi _ i' _ h=>nomatch h)⟩⟩
  ·rw [hv0,UV,hD0];exact r
  ·intro i d s dd _ h;rw [hv0] at h;cases h
end
end
section
open Go Go.RowKit
variable {P:Program} {ι:zw} {W:World} {B:wy} {h:AH} {D:List AD}
def qo (ol o:Oper) (i:Nat):Array Edge:=(o.after++ol.after).filter λe=>decide (e.on<i)
def seen (ops:Array Oper) (fl:List Nat) (ol:Oper) (i:Nat) (o:Oper):Oper:=if i∈fl then { o with after:=qo ol o i } else o
def vI (ops:Array Oper) (fl:List Nat) (l:Nat):Array Oper:=(ops.toList.mapIdx λi o=>seen ops fl (ops.toList.getD l default) i o).toArray
theorem bJ {ops:Array Oper} {fl:List Nat} {l i:Nat}:(vI ops fl l)[i]?=(ops[i]?).map λo=>seen ops fl (ops.toList.getD l default) i o:=by
 unfold vI;simp
theorem eL {ops:Array Oper} {fl:List Nat} {l:Nat}:(vI ops fl l).size=ops.size:=by unfold vI;simp
def flB (N:Nat) (ops:Array Oper) (fl:List Nat) (l:Nat):Bool :=
 decide (l<ops.size)&&!fl.contains l&&decide (fl.Pairwise (·<·)) &&
 (fl.all λi=>match ops[i]? with
  | some o=>o.guard.isNone&&(match o.dst with
   | some d=>decide (d<N)&&(List.range ops.size).all λj=>j == i||(ops[j]?).bind (·.dst) != some d
   | none=>false)&&(o.looksAt ops).all (λt=>fl.all λi'=>(ops[i']?).bind (·.dst) != some t)&&(match ops[l]? with
   | some ol=>ol.after.any λe=>Region.binds .any e&&e.on == i
   | none=>false)
  | none=>false) &&
 ((List.range ops.size).all λj=>fl.contains j||j == l||(match ops[j]? with
  | some o=>!(o.after.any λe=>Region.binds .any e&&fl.contains e.on)||uW (vH ops) l j
  | none=>true))
def eT (N:Nat) (ops:Array Oper):List Nat->zJ->zJ
 | [],e=>e
 | i :: fl,e=>eT N ops fl (zJ.put N ((ops[i]?).bind (·.dst)) .xF e)
def Hq (P:Program) (N:Nat) (zQ:Array Oper) (b:List (List Nat)) (es fl:List Nat):Nat->List Oper->List AH->AH->List (Nat × (AH->Prop))->(zJ->AH->Prop)->zJ->Prop
 | _,[],_,h,_,k,e=>k e h
 | j,o :: rest,gs,h,zT,k,e =>
  rp (fl.contains j) (match tt P (xl e) o.op with
   | some (ob,mk)=>me (gs.getD 0 xD) h/\dM (qB gs.length (h.make ob) zT) (Hq P N zQ b es fl (j+1) rest (gs++[h.make ob]) (h.make ob) zT k (e.put N o.dst (mk h.next)))
   | none=>False)
  (rp (es.contains j) (vcE P o.op e h λv h'=>dM (qB gs.length h' zT) (Hq P N zQ b es fl (j+1) rest (gs++[h']) h' zT k (e.put N o.dst v)))
  (rp (rX o.op) (H8 P o.op e h λv=>Hq P N zQ b es fl (j+1) rest gs h zT k (e.put N o.dst v))
  (H8 P o.op e h λv=>dM (fg (jv b es j) gs λg=>xw P o.op e g g v)
   (Hq P N zQ b es fl (j+1) rest gs h ((ZS b es j,λg=>xw P o.op e g g v) :: zT) k (e.put N o.dst v)))))
section
variable {N:Nat} {zQ:Array Oper} {e0:zJ} {es fl:List Nat}
def Op3 (P:Program) (N:Nat) (zQ:Array Oper) (es fl:List Nat) (e0:zJ) (vs:List V) (gs:List AH) (zT:List (Nat × (AH->Prop))) (i:Nat):Prop :=
 ∃ o e,zQ[i]?=some o/\(∀ zG,ui zG vs->Below e (wK N zQ zG e0 (λ_=>true) i)) /\
  if i∈fl then wh es i+1<gs.length/\me (gs.getD 0 xD) (gs.getD (wh es i) xD)/\∃ ob mk,tt P (xl e) o.op=some (ob,mk)/\vs.getD i .xF=mk (gs.getD (wh es i) xD).next /\
   gs.getD (wh es i+1) xD=(gs.getD (wh es i) xD).make ob
  else if i∈es then wh es i+1<gs.length/\xw P o.op e (gs.getD (wh es i) xD) (gs.getD (wh es i+1) xD) (vs.getD i .xF)
  else (rX o.op=true/\∃ g,xw P o.op e g g (vs.getD i .xF)) \/
   ((∀ k,jv (vH zQ) es i<=k->k<=ZS (vH zQ) es i->k<gs.length->xw P o.op e (gs.getD k xD) (gs.getD k xD) (vs.getD i .xF)) /\
    (ZS (vH zQ) es i,λg=>xw P o.op e g g (vs.getD i .xF))∈zT)
structure YY (P:Program) (N:Nat) (zQ:Array Oper) (es fl:List Nat) (e0:zJ) (vs:List V) (gs:List AH) (h:AH) (zT:List (Nat × (AH->Prop))) (e:zJ):Prop where
 below:∀ zG,ui zG vs->Below e (wK N zQ zG e0 (λ_=>true) vs.length)
 lex:∀ i,i<vs.length->Op3 P N zQ es fl e0 vs gs zT i
 len:gs.length=wh es vs.length+1
 cur:gs.getD (wh es vs.length) xD=h
theorem cy (tI:∀ i∈fl,i∈es) (hp:es.Pairwise λe f=>e<f/\uW (vH zQ) e f=true) {k:zJ->AH->Prop}:∀ (l:List Oper) (vs:List V) (gs:List AH) (h:AH) (zT:List (Nat × (AH->Prop))) (e:zJ),
 (∀ i,i<l.length->zQ[vs.length+i]?=l[i]?)->YY P N zQ es fl e0 vs gs h zT e->Hq P N zQ (vH zQ) es fl vs.length l gs h zT k e ->
 ∃ uz gA h' vj e',uz.length=vs.length+l.length/\gA.getD 0 xD=gs.getD 0 xD/\YY P N zQ es fl e0 uz gA h' vj e'/\k e' h'
 | [],vs,gs,h,zT,e,_,u,hv=>⟨vs,gs,h,zT,e,rfl,rfl,u,hv⟩
 | o :: l,vs,gs,h,zT,e,hi,u,hv=>by
  have ho:zQ[vs.length]?=some o:=by have:=hi 0 S_;simpa using this
  have next:∀ (v:V),(∀ i,i<l.length->zQ[(vs++[v]).length+i]?=l[i]?):=by
   intro v i vK;rw [List.length_append,List.length_singleton];have:=hi (i+1) (by simp;omega);simpa [Nat.add_assoc,Nat.add_comm 1 i] using this
  have qW:∀ v:V,(vs++[v]).length=vs.length+1:=λv=>by simp
  have bel:∀ v:V,∀ zG,ui zG (vs++[v])->Below (zJ.put N o.dst v e) (wK N zQ zG e0 (λ_=>true) (vs++[v]).length):=by
   intro v zG ha;obtain ⟨a1,a2⟩:=yj ha;rw [List.length_append,List.length_singleton,<- a2];exact rN ho (u.below zG a1)
  have BL:0<gs.length:=by have:=u.len;omega
  have kJ:∀ (v:V) (vj:List (Nat × (AH->Prop))),(∀ p∈zT,p∈vj)->∀ i,i<vs.length->Op3 P N zQ es fl e0 (vs++[v]) gs vj i:=by
   intro v vj UW i vK;obtain ⟨oi,ei,q1,q2,q3⟩:=u.lex i vK;refine ⟨oi,ei,q1,λzG ha=>q2 zG (yj ha).1,?_⟩;rw [yH vs v V.xF vK];split
   ·rename_i hm;rw [if_pos hm] at q3;exact q3
   ·rename_i hm;rw [if_neg hm] at q3;split
    ·rename_i hm;rw [if_pos hm] at q3;exact q3
    ·rename_i hm;rw [if_neg hm] at q3;rcases q3 with q3 | ⟨q3,q4⟩
     ·exact .inl q3
     ·exact .inr ⟨q3,UW _ q4⟩
  have more:∀ (v:V) (h':AH),(∀ q∈qB gs.length h' zT,q)->∀ i,i<vs.length->Op3 P N zQ es fl e0 (vs++[v]) (gs++[h']) zT i:=by
   intro v h' hq i vK;obtain ⟨oi,ei,q1,q2,q3⟩:=u.lex i vK;refine ⟨oi,ei,q1,λzG ha=>q2 zG (yj ha).1,?_⟩;rw [yH vs v V.xF vK];split
   ·rename_i hm;rw [if_pos hm] at q3;refine ⟨by simp;omega,?_⟩;rw [yH gs h' xD (k:=0) BL,yH gs h' xD (k:=wh es i) O_,yH gs h' xD q3.1];exact q3.2
   ·rename_i hm;rw [if_neg hm] at q3;split
    ·rename_i hm;rw [if_pos hm] at q3;refine ⟨by simp;omega,?_⟩;rw [yH gs h' xD O_,yH gs h' xD q3.1];exact q3.2
    ·rename_i hm;rw [if_neg hm] at q3;rcases q3 with q3 | ⟨q3,q4⟩
     ·exact .inl q3
     ·refine .inr ⟨λk k1 k2 k3=>?_,q4⟩;rcases Nat.lt_or_ge k gs.length with hk | hk
      ·rw [yH gs h' xD hk];exact q3 k k1 k2 hk
      ·have:k=gs.length:=by simp at k3;omega
       subst this;rw [xp gs h' xD];refine hq (xw P oi.op ei h' h' (vs.getD i .xF)) ?_;exact List.mem_map.2 ⟨_,List.mem_filter.2 ⟨q4,by simpa using k2⟩,rfl⟩
  -- one BR z2b
  have write:∀ (v:V) (h':AH),vs.length∈es->(∀ q∈qB gs.length h' zT,q)->Op3 P N zQ es fl e0 (vs++[v]) (gs++[h']) zT vs.length ->
   Hq P N zQ (vH zQ) es fl (vs.length+1) l (gs++[h']) h' zT k (e.put N o.dst v)->∃ uz gA h2 vj e',uz.length=vs.length+(o :: l).length/\gA.getD 0 xD=gs.getD 0 xD/\YY P N zQ es fl e0 uz gA h2 vj e'/\k e' h2:=by
   intro v h' vi hl qU hv;have cJ:wh es (vs.length+1)=wh es vs.length+1:=by rw [pn hp,if_pos vi]
   have hu:YY P N zQ es fl e0 (vs++[v]) (gs++[h']) h' zT (zJ.put N o.dst v e):=by
    refine ⟨bel v,λi vK=>?_,?_,?_⟩
    ·rcases Nat.lt_or_ge i vs.length with hlt | Rb
     ·exact more v h' hl i hlt
     ·obtain rfl:i=vs.length:=by rw [qW] at vK;omega
      exact qU
    ·rw [qW,cJ];simp [u.len]
    ·rw [qW,cJ,<- u.len,xp]
   obtain ⟨uz,gA,h2,vj,e',r1,r2,r3,r4⟩:=cy tI hp l (vs++[v]) (gs++[h']) h' zT _ (next v) hu (by rw [qW];exact hv);exact ⟨uz,gA,h2,vj,e',by rw [r1,qW];simp;omega,by rw [r2,yH gs h' xD BL],r3,r4⟩
  simp only [Hq] at hv;cases gB:fl.contains vs.length with
  | true =>
   rw [gB] at hv
   try simp only [wn] at hv
   have ND:vs.length∈fl:=by simpa using gB
   split at hv
   ·rename_i ob mk Ra;obtain ⟨mv,hv⟩:=hv;obtain ⟨hl,hv⟩:=sg hv;refine write _ _ (tI _ ND) hl ?_ hv;refine ⟨o,e,ho,λzG ha=>u.below zG (yj ha).1,?_⟩;rw [if_pos ND,xp vs _ V.xF];have:=u.len;have e1:(gs++[h.make ob]).getD (wh es vs.length) xD=h:=by rw [yH gs _ xD O_];exact u.cur
    refine ⟨by simp;omega,by rw [e1,yH gs _ xD (k:=0) BL];exact mv,ob,mk,Ra,by rw [e1],?_⟩;rw [e1,show wh es vs.length+1=gs.length from u.len.symm,xp gs _ xD]
   ·exact hv.elim
  | false =>
   rw [gB] at hv
   try simp only [uj] at hv
   have ND:vs.length ∉ fl:=by simpa using gB
   cases dP:es.contains vs.length with
   | true =>
    rw [dP] at hv
    try simp only [wn] at hv
    have vi:vs.length∈es:=by simpa using dP
    obtain ⟨v,h',hy,hv⟩:=oE hv;obtain ⟨hl,hv⟩:=sg hv;refine write v h' vi hl ?_ hv;refine ⟨o,e,ho,λzG ha=>u.below zG (yj ha).1,?_⟩;rw [if_neg ND,if_pos vi,xp vs v V.xF];have:=u.len;refine ⟨by simp;omega,?_⟩;rw [yH gs h' xD O_,u.cur,show wh es vs.length+1=gs.length from u.len.symm,xp gs h' xD];exact hy
   | false =>
    rw [dP] at hv
    try simp only [uj] at hv
    have vi:vs.length ∉ es:=by simpa using dP
    have cJ:wh es (vs.length+1)=wh es vs.length:=by rw [pn hp,if_neg vi];rfl
    cases Jb:rX o.op with
    | true =>
     rw [Jb] at hv
     try simp only [wn] at hv
     obtain ⟨v,hy,hv⟩:=up hv;have hu:YY P N zQ es fl e0 (vs++[v]) gs h zT (zJ.put N o.dst v e):=by
      refine ⟨bel v,λi vK=>?_,by rw [qW,cJ];exact u.len,by rw [qW,cJ];exact u.cur⟩;rcases Nat.lt_or_ge i vs.length with hlt | Rb
      ·exact kJ v zT (λ_ h=>h) i hlt
      ·obtain rfl:i=vs.length:=by rw [qW] at vK;omega
       refine ⟨o,e,ho,λzG ha=>u.below zG (yj ha).1,?_⟩;rw [if_neg ND,if_neg vi,xp vs v V.xF];exact .inl ⟨Jb,h,hy⟩
     obtain ⟨uz,gA,h2,vj,e',r1,r2,r3,r4⟩:=cy tI hp l (vs++[v]) gs h zT _ (next v) hu (by rw [qW];exact hv);exact ⟨uz,gA,h2,vj,e',by rw [r1,qW];simp;omega,r2,r3,r4⟩
    | false =>
     rw [Jb] at hv
     try simp only [uj] at hv
     obtain ⟨v,hy,hv⟩:=up hv;obtain ⟨pN,hv⟩:=sg hv;have hu:YY P N zQ es fl e0 (vs++[v]) gs h ((ZS (vH zQ) es vs.length,λg=>xw P o.op e g g v) :: zT) (zJ.put N o.dst v e):=by
      refine ⟨bel v,λi vK=>?_,by rw [qW,cJ];exact u.len,by rw [qW,cJ];exact u.cur⟩;rcases Nat.lt_or_ge i vs.length with hlt | Rb
      ·exact kJ v _ (λ_ h=>List.mem_cons_of_mem _ h) i hlt
      ·obtain rfl:i=vs.length:=by rw [qW] at vK;omega
       refine ⟨o,e,ho,λzG ha=>u.below zG (yj ha).1,?_⟩;rw [if_neg ND,if_neg vi,xp vs v V.xF];refine .inr ⟨λk k1 k2 k3=>?_,List.mem_cons_self⟩;have hlen:=u.len;by_cases hk:k=wh es vs.length
       ·subst hk;rw [u.cur];exact hy
       ·have JH:k<gs.length-1:=O_;refine pN (xw P o.op e (gs.getD k xD) (gs.getD k xD) v) ?_;unfold fg;refine List.mem_map.2 ⟨gs.getD k xD,?_,rfl⟩;rw [List.mem_iff_getElem?];refine ⟨k-jv (vH zQ) es vs.length,?_⟩;rw [List.getElem?_drop,show jv (vH zQ) es vs.length+(k-jv (vH zQ) es vs.length)=k by omega,List.getElem?_dropLast,if_pos JH];rw [List.getD_eq_getElem?_getD,List.getElem?_eq_getElem O_];rfl
     obtain ⟨uz,gA,h2,vj,e',r1,r2,r3,r4⟩:=cy tI hp l (vs++[v]) gs h _ _ (next v) hu (by rw [qW];exact hv);exact ⟨uz,gA,h2,vj,e',by rw [r1,qW];simp;omega,r2,r3,r4⟩
end
theorem cC {N:Nat} {ops:Array Oper}:∀ (fl:List Nat) (e:zJ) (t:Nat),zJ.get (eT N ops fl e) t=.xF\/zJ.get (eT N ops fl e) t=zJ.get e t
 | [],e,t=>.inr rfl
 | i :: fl,e,t=>by
  rcases cC (N:=N) (ops:=ops) fl (zJ.put N ((ops[i]?).bind (·.dst)) .xF e) t with h | h
  ·exact .inl h
  ·rw [eT,h,qb];split
   ·exact .inl rfl
   ·exact .inr rfl
theorem Xr {N:Nat} {ops:Array Oper}:∀ (fl:List Nat) (e:zJ) (i d:Nat),i∈fl->(ops[i]?).bind (·.dst)=some d->d<N->zJ.get (eT N ops fl e) d=.xF
 | i' :: fl,e,i,d,hi,hd,hN=>by
  simp only [eT];rcases List.mem_cons.1 hi with rfl | hi
  ·rcases cC (N:=N) (ops:=ops) fl (zJ.put N ((ops[i]?).bind (·.dst)) .xF e) d with h | h
   ·exact h
   ·rw [h,qb,if_pos ⟨hd,hN⟩]
  ·exact Xr fl _ i d hi hd hN
def hH (P:Program) (N:Nat) (ops:Array Oper) (es fl:List Nat) (l:Nat):Bool :=
 qT P N (vI ops fl l) es&&eG ops&&uH ops&&flB N ops fl l&&(fl.all λi=>es.contains i)
theorem SX (K:Ok P) {N:Nat} {ops:Array Oper} {es fl:List Nat} {l:Nat} {id:Nat} {Q:yT->zJ->AH->Prop} {e:zJ} {a:Act} (hd:hH P N ops es fl l=true) (F:ye P B ι h W) (r:wH P ι N D e a)
 (hv:Hq P N (vI ops fl l) (vH (vI ops fl l)) es fl 0 (vI ops fl l).toList [h] h [] (Q .normal) (eT N ops fl e)):(Code.region id ops true).wp P (uK P B ι N D Q) a W:=by
 unfold hH at hd;simp only [Bool.and_eq_true] at hd;obtain ⟨⟨⟨⟨hd,hbo⟩,hpo⟩,hfb⟩,tI⟩:=hd;have tI:∀ i∈fl,i∈es:=λi hi=>by have:=List.all_eq_true.1 tI i hi;simpa using this
 have ew:=eL (ops:=ops) (fl:=fl) (l:=l);have UX:∀ i,(vI ops fl l)[i]?=(ops[i]?).map λo=>seen ops fl (ops.toList.getD l default) i o:=λi=>bJ;generalize vI ops fl l=zQ at *;unfold qT rM at hd;simp only [Bool.and_eq_true] at hd;obtain ⟨⟨⟨⟨⟨⟨h1,h2⟩,h3⟩,h4⟩,h5⟩,h6⟩,h7⟩:=hd;have hp:=ma h4;have hr0:wh es 0=0:=by unfold wh;rw [List.countP_eq_zero];intro e _;simp
 obtain ⟨vs,gs,h',zT,e',r1,r2,r3,r4⟩:=cy (P:=P) (N:=N) (zQ:=zQ) (es:=es) (fl:=fl) (e0:=eT N ops fl e) tI hp zQ.toList [] [h] h [] (eT N ops fl e) (by intro i hi;simp)
  ⟨λzG _ t=>.inr rfl,λi hi=>by simp at hi,by simp [hr0],by simp [hr0]⟩ hv
 simp only [List.length_nil,Nat.zero_add,Array.length_toList] at r1;have ha:ui (λi=>vs.getD i .xF) vs:=λk _=>rfl;have qC:∀ j,wx N zQ j=none:=by
  intro j;rcases Nat.lt_or_ge j zQ.size with hj | hj
  ·have:=List.all_eq_true.1 h7 j (List.mem_range.2 hj);simpa using this
  ·unfold wx;rw [Array.getElem?_eq_none hj]
 have hrn:wh es zQ.size=es.length:=by
  unfold wh;rw [List.countP_eq_length];intro j hj;exact List.all_eq_true.1 h5 j hj
 have hlen:gs.length=es.length+1:=by rw [r3.len,r1,hrn]
 -- the static facts
 unfold flB at hfb;simp only [Bool.and_eq_true,decide_eq_true_eq,Bool.not_eq_true',List.contains_eq_mem,decide_eq_false_iff_not] at hfb;obtain ⟨⟨⟨⟨b1,b2⟩,b3⟩,b4⟩,b5⟩:=hfb;have BS:ops[l]?=some ops[l]:=by simp [b1]
 have hold:ops.toList.getD l default=ops[l]:=by simp [b1]
 have O3:∀ i∈fl,∃ o d,ops[i]?=some o/\o.guard=none/\o.dst=some d/\d<N/\(∀ (j:Nat) (o':Oper),ops[j]?=some o'->o'.dst=some d->j=i)/\(∃ e∈ops[l].after,Region.binds .any e=true/\e.on=i)/\∀ t∈o.looksAt ops,∀ i'∈fl,(ops[i']?).bind (·.dst)≠some t:=by
  intro i hi;have:=List.all_eq_true.1 b4 i hi;split at this
  ·rename_i o ho;simp only [Bool.and_eq_true] at this;obtain ⟨⟨⟨g1,g2⟩,g4⟩,g3⟩:=this;split at g2
   ·rename_i d JM;simp only [Bool.and_eq_true,decide_eq_true_eq] at g2;rw [BS] at g3;simp only [Array.any_eq_true',Bool.and_eq_true,beq_iff_eq] at g3;refine ⟨o,d,ho,by simpa using g1,JM,g2.1,λj o' hj BT=>?_,g3,λt ht i' vK=>by
     have:=List.all_eq_true.1 (List.all_eq_true.1 g4 t ht) i' vK;simpa using this⟩
    have mg:j<ops.size:=(Array.getElem?_eq_some_iff.1 hj).1;have:=List.all_eq_true.1 g2.2 j (List.mem_range.2 mg);rw [hj] at this;simp only [Option.bind_some,Bool.or_eq_true,beq_iff_eq,bne_iff_ne,ne_eq] at this;rcases this with h | h
    ·exact h
    ·exact absurd BT h
   ·cases g2
  ·cases this
 have NE:∀ i∈fl,∀ o,ops[i]?=some o->zQ[i]?=some { o with after:=qo ops[l] o i }:=λi hi o ho=>by
  rw [UX,ho,hold];simp [seen,hi]
 have Zr:∀ j o,ops[j]?=some o->j ∉ fl->zQ[j]?=some o:=λj o ho hj=>by rw [UX,ho];simp [seen,hj]
 -- Ja the eh are
 have flx:∀ i∈fl,∃ (Zs:AO × (Nat->V)) (ei:zJ),Below ei (wK N zQ (λi=>vs.getD i .xF) (eT N ops fl e) (λ_=>true) i) /\
  (∀ o,ops[i]?=some o->tt P (xl ei) o.op=some Zs)/\me (gs.getD 0 xD) (gs.getD (wh es i) xD)/\vs.getD i .xF=Zs.2 (gs.getD (wh es i) xD).next /\
  gs.getD (wh es i+1) xD=(gs.getD (wh es i) xD).make Zs.1:=by
  intro i hi;have JN:i<zQ.size:=by
   obtain ⟨o,d,g1,_⟩:=O3 i hi;rw [ew];exact (Array.getElem?_eq_some_iff.1 g1).1
  obtain ⟨o,ei,q1,q2,q3⟩:=r3.lex i (by rw [r1];exact JN);rw [if_pos hi] at q3;obtain ⟨q4,q5,ob,mk,q6,q7,q8⟩:=q3;refine ⟨(ob,mk),ei,q2 _ ha,λo' rD=>?_,q5,q7,q8⟩
  ·have:=NE i hi o' rD;rw [q1] at this;cases this;exact q6
 let Zs:Nat->AO × (Nat->V):=λi=>if hi:i∈fl then (flx i hi).choose else (.mp 0 0 [],λ_=>.xF)
 have Jc:∀ i (hi:i∈fl),Zs i=(flx i hi).choose:=λi hi=>by show dite _ _ _=_;rw [dif_pos hi]
 let NF:Nat->Tmp:=λi=>((ops[i]?).bind (·.dst)).getD 0
 have hds:∀ i o d,ops[i]?=some o->o.dst=some d->NF i=d:=λi o d ho JM=>by show ((ops[i]?).bind (·.dst)).getD 0=d;rw [ho];simp [JM]
 have X:fI P N ops zQ fl l (λi=>vs.getD i .xF) (eT N ops fl e) (λi=>(Zs i).1) (λi=>(Zs i).2) NF:=by
  refine ⟨ew,Zr,λi hi=>?_,λi hi=>?_,λi hi o ho t ht i' vK wO=>?_,b2,b1,λi hi=>?_,λj o ho hj qV ed he hb hf S hc hS=>?_,b3⟩
  ·obtain ⟨o,d,g1,g2,g3,g4,g5,g6⟩:=O3 i hi;obtain ⟨ei,x1,x2,_⟩:=(flx i hi).choose_spec;refine ⟨o,qo ops[l] o i,g1,NE i hi o g1,g2,by rw [hds i o d g1 g3];exact g3,⟨ei,x1,by rw [x2 o g1,Jc i hi]⟩,λed he hb=>?_⟩;unfold qo at he;have he:=Array.mem_filter.1 he;refine ⟨λ_=>by simpa using he.2,?_⟩;rcases Array.mem_append.1 he.1 with h | h
   ·exact .inr ⟨ed,h,hb,rfl⟩
   ·exact .inl ⟨ops[l],BS,ed,h,hb,rfl⟩
  ·obtain ⟨o,d,g1,g2,g3,g4,g5,g6⟩:=O3 i hi;rw [hds i o d g1 g3];exact ⟨g4,Xr fl e i d hi (by rw [g1];exact g3) g4,g5⟩
  ·obtain ⟨o',d,g1,g2,g3,g4,g5,g6,g7⟩:=O3 i hi;rw [ho] at g1;cases g1;obtain ⟨o2,d2,k1,k2,k3,_⟩:=O3 i' vK;refine g7 t ht i' vK ?_;rw [k1];show o2.dst=some t;rw [k3,<- wO,hds i' o2 d2 k1 k3]
  ·obtain ⟨o,d,g1,g2,g3,g4,g5,⟨ed,g6,g7,g8⟩,_⟩:=O3 i hi;exact ⟨ops[l],BS,ed,g6,g7,g8⟩
  ·have mg:j<ops.size:=(Array.getElem?_eq_some_iff.1 ho).1;have:=List.all_eq_true.1 b5 j (List.mem_range.2 mg);rw [ho] at this;simp only [Bool.or_eq_true,List.contains_eq_mem,decide_eq_true_eq,beq_iff_eq,Bool.not_eq_true'] at this;rcases this with (h | h) | (h | h)
   ·exact absurd h hj
   ·exact absurd h qV
   ·exfalso;have vk:=h;rw [Array.any_eq_false'] at vk;have:=vk ed he;simp [hb,hf] at this
   ·unfold uW at h;exact lT j l (by simpa using h) S hc (λo' rD=>by rw [ho] at rD;cases rD;exact hS)
 refine OP (zG:=λi=>vs.getD i .xF) (mem:=λS=>gs.getD (sC es S) xD) (D:=λ_=>D) (D0:=D) K h1 hpo h2 hbo qC X (λj hj=>?_) (λi hi T hc hr=>?_) (gc:=h') (λS hS=>?_) (λ_=>rfl) ?_ ?_ (e:=e') ?_ r4
 ·have hjv:j<zQ.size:=by rw [ew];exact hj
  obtain ⟨o,ej,q1,q2,q3⟩:=r3.lex j (by rw [r1];exact hjv);have hgd:o.guard=none:=by
   rw [Array.all_eq_true'] at h6;have:=h6 o (Array.mem_of_getElem? q1);simpa using this
  refine .ord (qC j) (λi _=>qC i) ej (q2 _ ha) o q1 (by unfold kO;rw [hgd]) (λS hc hr=>?_) λ_ _ _=>rfl;by_cases hf:j∈fl
  ·rw [if_pos hf] at q3;have hm:=tI j hf;rw [vX hp hm hr.1,qa hp hm hc hr];obtain ⟨q4,q5,ob,mk,q6,q7,q8⟩:=q3;rw [q7,q8];have hz:=(jm q6).1 (gs.getD (wh es j) xD);unfold xw;cases qU:o.op <;> rw [qU] at hz q6 <;> first | exact hz | (exfalso;unfold tt at q6;cases q6;done)
  ·rw [if_neg hf] at q3;by_cases hm:j∈es
   ·rw [if_pos hm] at q3;rw [vX hp hm hr.1,qa hp hm hc hr];exact q3.2
   ·rw [if_neg hm] at q3;rw [oc hm];rcases q3 with ⟨q3,g,q4⟩ | ⟨q3,_⟩
    ·exact nU q3 q4
    ·exact q3 _ (XZ hc hr) (Xg hc hr) (by rw [hlen];have:=Sr (es:=es) (S:=S);omega)
 ·have hm:=tI i hi;obtain ⟨ei,x1,x2,x3,x4,x5⟩:=(flx i hi).choose_spec;have c0:sC es (λ_=>false)=0:=by unfold sC;rw [List.countP_eq_zero];intro _ _;simp
  show me (gs.getD (sC es λ_=>false) xD) (gs.getD (sC es T) xD)/\vs.getD i .xF=(Zs i).2 (gs.getD (sC es T) xD).next/\gs.getD (sC es (ww T i)) xD=(gs.getD (sC es T) xD).make (Zs i).1/\D=D;rw [c0,vX hp hm hr.1,qa hp hm hc hr,Jc i hi];exact ⟨x3,x4,x5,rfl⟩
 ·have:sC es S=es.length:=by
   unfold sC;rw [List.countP_eq_length];intro j hj;exact hS j (by have:=List.all_eq_true.1 h5 j hj;rw [ew] at this;simpa using this)
  show gs.getD (sC es S) xD=h';rw [this,<- hrn,<- r1];exact r3.cur
 ·have:sC es (λ_=>false)=0:=by unfold sC;rw [List.countP_eq_zero];intro _ _;simp
  show ye P B ι (gs.getD (sC es λ_=>false) xD) W;rw [this,r2];exact F
 ·exact ow r λt=>cC fl e t
 ·have:=r3.below _ ha;rw [r1] at this;exact this
end
section
open Go Go.RowKit
variable {P:Program} {ι:zw} {W:World} {B:wy} {h:AH} {D:List AD}
def vcN (P:Program) (o:Op) (e:zJ) (h:AH) (K:V->AH->Prop):Prop :=
 match o with
 | .call { callee:=.value f,args:=args,.. }=>qc P (xl e f) (args.toList.map (xl e)) h (zS K λ_ _=>False)
 | .call { callee:=.invoke r name,args:=args,.. }=>tD P (xl e r) name (args.toList.map (xl e)) h (zS K λ_ _=>False)
 | _=>False
theorem N9 {o:Op} {e e':zJ} {h:AH} {K:V->AH->Prop} (hx:∀ x∈o.operands,xl e x=xl e' x) (y:vcN P o e h K):vcN P o e' h K:=by
 unfold vcN at *;split at y
 ·rename_i f args ts;have h1:xl e f=xl e' f:=hx f (by simp [Op.operands,Call.operands]);have h2:args.toList.map (xl e)=args.toList.map (xl e'):=List.map_congr_left λx h=>hx x (by simp [Op.operands,Call.operands,Array.mem_toList_iff.1 h]);rw [<- h1,<- h2];exact y
 ·rename_i r name args ts;have h1:xl e r=xl e' r:=hx r (by simp [Op.operands,Call.operands]);have h2:args.toList.map (xl e)=args.toList.map (xl e'):=List.map_congr_left λx h=>hx x (by simp [Op.operands,Call.operands,Array.mem_toList_iff.1 h]);rw [<- h1,<- h2];exact y
 ·exact y.elim
theorem Kz {o:Op} {e:zJ} {h:AH} {K:V->AH->Prop} (y:vcN P o e h K):Nu P o e h K (λ_ _ _=>False):=by
 unfold vcN at y;split at y
 ·exact y
 ·exact y
 ·exact y.elim
def Nt (P:Program) (N:Nat) (zQ:Array Oper) (b:List (List Nat)) (es fl:List Nat) (kk:Nat):Nat->List Oper->List AH->AH->List (Nat × (AH->Prop))->(zJ->AH->Prop)->zJ->Prop
 | _,[],_,h,_,k,e=>k e h
 | j,o :: rest,gs,h,zT,k,e =>
  rp (Nat.beq j kk) (vcN P o.op e h λv h'=>dM (qB gs.length h' zT) (Nt P N zQ b es fl kk (j+1) rest (gs++[h']) h' zT k (e.put N o.dst v)))
  (rp (fl.contains j) (match tt P (xl e) o.op with
   | some (ob,mk)=>me (gs.getD 0 xD) h/\dM (qB gs.length (h.make ob) zT) (Nt P N zQ b es fl kk (j+1) rest (gs++[h.make ob]) (h.make ob) zT k (e.put N o.dst (mk h.next)))
   | none=>False)
  (rp (es.contains j) (vcE P o.op e h λv h'=>dM (qB gs.length h' zT) (Nt P N zQ b es fl kk (j+1) rest (gs++[h']) h' zT k (e.put N o.dst v)))
  (rp (rX o.op) (H8 P o.op e h λv=>Nt P N zQ b es fl kk (j+1) rest gs h zT k (e.put N o.dst v))
  (H8 P o.op e h λv=>dM (fg (jv b es j) gs λg=>xw P o.op e g g v)
   (Nt P N zQ b es fl kk (j+1) rest gs h ((ZS b es j,λg=>xw P o.op e g g v) :: zT) k (e.put N o.dst v))))))
section
variable {N:Nat} {zQ:Array Oper} {e0:zJ} {es fl:List Nat} {kk:Nat}
def Op4 (P:Program) (N:Nat) (zQ:Array Oper) (es fl:List Nat) (kk:Nat) (e0:zJ) (vs:List V) (gs:List AH) (zT:List (Nat × (AH->Prop))) (i:Nat):Prop :=
 i=kk\/Op3 P N zQ es fl e0 vs gs zT i
structure iN (P:Program) (N:Nat) (zQ:Array Oper) (es fl:List Nat) (kk:Nat) (e0:zJ) (vs:List V) (gs:List AH) (h:AH) (zT:List (Nat × (AH->Prop))) (e:zJ):Prop where
 below:∀ zG,ui zG vs->Below e (wK N zQ zG e0 (λ_=>true) vs.length)
 lex:∀ i,i<vs.length->Op4 P N zQ es fl kk e0 vs gs zT i
 len:gs.length=wh es vs.length+1
 cur:gs.getD (wh es vs.length) xD=h
theorem QK {vs:List V} {gs:List AH} {zT:List (Nat × (AH->Prop))} {v:V} {vj:List (Nat × (AH->Prop))} (UW:∀ p∈zT,p∈vj) {i:Nat} (vK:i<vs.length) (q:Op4 P N zQ es fl kk e0 vs gs zT i):Op4 P N zQ es fl kk e0 (vs++[v]) gs vj i:=by
 rcases q with q | ⟨oi,ei,q1,q2,q3⟩
 ·exact .inl q
 refine .inr ⟨oi,ei,q1,λzG ha=>q2 zG (yj ha).1,?_⟩;rw [yH vs v V.xF vK];split
 ·rename_i hm;rw [if_pos hm] at q3;exact q3
 ·rename_i hm;rw [if_neg hm] at q3;split
  ·rename_i hm;rw [if_pos hm] at q3;exact q3
  ·rename_i hm;rw [if_neg hm] at q3;rcases q3 with q3 | ⟨q3,q4⟩
   ·exact .inl q3
   ·exact .inr ⟨q3,UW _ q4⟩
theorem Kd {vs:List V} {gs:List AH} {zT:List (Nat × (AH->Prop))} (BL:0<gs.length) {v:V} {h':AH} (hq:∀ q∈qB gs.length h' zT,q) {i:Nat} (vK:i<vs.length) (q:Op4 P N zQ es fl kk e0 vs gs zT i):Op4 P N zQ es fl kk e0 (vs++[v]) (gs++[h']) zT i:=by
 rcases q with q | ⟨oi,ei,q1,q2,q3⟩
 ·exact .inl q
 refine .inr ⟨oi,ei,q1,λzG ha=>q2 zG (yj ha).1,?_⟩;rw [yH vs v V.xF vK];split
 ·rename_i hm;rw [if_pos hm] at q3;refine ⟨by simp;omega,?_⟩;rw [yH gs h' xD (k:=0) BL,yH gs h' xD (k:=wh es i) O_,yH gs h' xD q3.1];exact q3.2
 ·rename_i hm;rw [if_neg hm] at q3;split
  ·rename_i hm;rw [if_pos hm] at q3;refine ⟨by simp;omega,?_⟩;rw [yH gs h' xD O_,yH gs h' xD q3.1];exact q3.2
  ·rename_i hm;rw [if_neg hm] at q3;rcases q3 with q3 | ⟨q3,q4⟩
   ·exact .inl q3
   ·refine .inr ⟨λk k1 k2 k3=>?_,q4⟩;rcases Nat.lt_or_ge k gs.length with hk | hk
    ·rw [yH gs h' xD hk];exact q3 k k1 k2 hk
    ·have:k=gs.length:=by simp at k3;omega
     subst this;rw [xp gs h' xD];refine hq (xw P oi.op ei h' h' (vs.getD i .xF)) ?_;exact List.mem_map.2 ⟨_,List.mem_filter.2 ⟨q4,by simpa using k2⟩,rfl⟩
theorem mX {vs:List V} {o:Oper} {e:zJ} (ho:zQ[vs.length]?=some o) (hb:∀ zG,ui zG vs->Below e (wK N zQ zG e0 (λ_=>true) vs.length)) (v:V):∀ zG,ui zG (vs++[v])->Below (zJ.put N o.dst v e) (wK N zQ zG e0 (λ_=>true) (vs++[v]).length):=by
 intro zG ha;obtain ⟨a1,a2⟩:=yj ha;rw [List.length_append,List.length_singleton,<- a2];exact rN ho (hb zG a1)
theorem mK (hp:es.Pairwise λe f=>e<f/\uW (vH zQ) e f=true) {vs:List V} {gs:List AH} {h:AH} {zT:List (Nat × (AH->Prop))} {e:zJ} {o:Oper} (u:iN P N zQ es fl kk e0 vs gs h zT e) (ho:zQ[vs.length]?=some o) {v:V} {h':AH} (vi:vs.length∈es) (hl:∀ q∈qB gs.length h' zT,q) (qU:Op4 P N zQ es fl kk e0 (vs++[v]) (gs++[h']) zT vs.length) :
 iN P N zQ es fl kk e0 (vs++[v]) (gs++[h']) h' zT (zJ.put N o.dst v e):=by
 have qW:∀ v:V,(vs++[v]).length=vs.length+1:=λv=>by simp
 have cJ:wh es (vs.length+1)=wh es vs.length+1:=by rw [pn hp,if_pos vi]
 have BL:0<gs.length:=by have:=u.len;omega
 refine ⟨mX ho u.below v,λi vK=>?_,?_,?_⟩
 ·rcases Nat.lt_or_ge i vs.length with hlt | Rb
  ·exact Kd BL hl hlt (u.lex i hlt)
  ·obtain rfl:i=vs.length:=by rw [qW] at vK;omega
   exact qU
 ·rw [qW,cJ];simp [u.len]
 ·rw [qW,cJ,<- u.len,xp]
def z0g (P:Program) (N:Nat) (zQ:Array Oper) (es fl:List Nat) (kk:Nat) (e0:zJ) (k:zJ->AH->Prop) (n:Nat) (vs:List V) (gs:List AH):Prop :=
 ∃ uz gA h' vj e' l',uz.length+l'.length=n/\(∀ i,i<l'.length->zQ[uz.length+i]?=l'[i]?)/\(∃ x,uz=vs++x)/\(∃ y,gA=gs++y)/\iN P N zQ es fl kk e0 uz gA h' vj e'/\Nt P N zQ (vH zQ) es fl kk uz.length l' gA h' vj k e' /\
  ((uz.length=kk/\l'≠[])\/(l'=[]/\(kk<vs.length\/uz.length<=kk)))
theorem XS (tI:∀ i∈fl,i∈es) (hp:es.Pairwise λe f=>e<f/\uW (vH zQ) e f=true) {k:zJ->AH->Prop}:∀ (l:List Oper) (vs:List V) (gs:List AH) (h:AH) (zT:List (Nat × (AH->Prop))) (e:zJ),
 (∀ i,i<l.length->zQ[vs.length+i]?=l[i]?)->iN P N zQ es fl kk e0 vs gs h zT e->Nt P N zQ (vH zQ) es fl kk vs.length l gs h zT k e ->
 z0g P N zQ es fl kk e0 k (vs.length+l.length) vs gs
 | [],vs,gs,h,zT,e,hi,u,hv=>⟨vs,gs,h,zT,e,[],rfl,hi,⟨[],S_⟩,⟨[],S_⟩,u,hv,.inr ⟨rfl,O_⟩⟩
 | o :: l,vs,gs,h,zT,e,hi,u,hv=>by
  by_cases hkk:vs.length=kk
  ·exact ⟨vs,gs,h,zT,e,o :: l,rfl,hi,⟨[],S_⟩,⟨[],S_⟩,u,hv,.inl ⟨hkk,S_⟩⟩
  have ho:zQ[vs.length]?=some o:=by have:=hi 0 S_;simpa using this
  have next:∀ (v:V),(∀ i,i<l.length->zQ[(vs++[v]).length+i]?=l[i]?):=by
   intro v i vK;rw [List.length_append,List.length_singleton];have:=hi (i+1) (by simp;omega);simpa [Nat.add_assoc,Nat.add_comm 1 i] using this
  have qW:∀ v:V,(vs++[v]).length=vs.length+1:=λv=>by simp
  -- the rest of the run
  have rest:∀ (v:V) (gs2:List AH) (h2:AH) (rl:List (Nat × (AH->Prop))),(∃ y,gs2=gs++y)->iN P N zQ es fl kk e0 (vs++[v]) gs2 h2 rl (zJ.put N o.dst v e)->Nt P N zQ (vH zQ) es fl kk (vs.length+1) l gs2 h2 rl k (e.put N o.dst v)->z0g P N zQ es fl kk e0 k (vs.length+(o :: l).length) vs gs:=by
   intro v gs2 h2 rl hy hu hv;obtain ⟨uz,gA,h',vj,e',l',r1,r2,⟨x,r3⟩,⟨y,r4⟩,r5,r6,r7⟩:=XS tI hp l (vs++[v]) gs2 h2 rl _ (next v) hu (by rw [qW];exact hv);obtain ⟨z,hz⟩:=hy;refine ⟨uz,gA,h',vj,e',l',by rw [r1,qW];simp;omega,r2,⟨[v]++x,by rw [r3,List.append_assoc]⟩,⟨z++y,by rw [r4,hz,List.append_assoc]⟩,r5,r6,?_⟩;rcases r7 with r7 | ⟨r7,r8⟩
   ·exact .inl r7
   ·refine .inr ⟨r7,?_⟩;rw [qW] at r8;omega
  simp only [Nt] at hv;have hb0:Nat.beq vs.length kk=false:=by
   cases hq:Nat.beq vs.length kk with
   | true=>exact absurd (Nat.eq_of_beq_eq_true hq) hkk
   | false=>rfl
  rw [hb0] at hv
  try simp only [uj] at hv
  cases gB:fl.contains vs.length with
  | true =>
   rw [gB] at hv
   try simp only [wn] at hv
   have ND:vs.length∈fl:=by simpa using gB
   split at hv
   ·rename_i ob mk Ra;obtain ⟨mv,hv⟩:=hv;obtain ⟨hl,hv⟩:=sg hv;refine rest _ _ _ _ ⟨_,rfl⟩ (mK hp u ho (tI _ ND) hl (.inr ?_)) hv;refine ⟨o,e,ho,λzG ha=>u.below zG (yj ha).1,?_⟩;rw [if_pos ND,xp vs _ V.xF];have:=u.len;have e1:(gs++[h.make ob]).getD (wh es vs.length) xD=h:=by rw [yH gs _ xD O_];exact u.cur
    refine ⟨by simp;omega,by rw [e1,yH gs _ xD (k:=0) O_];exact mv,ob,mk,Ra,by rw [e1],?_⟩;rw [e1,show wh es vs.length+1=gs.length from u.len.symm,xp gs _ xD]
   ·exact hv.elim
  | false =>
   rw [gB] at hv
   try simp only [uj] at hv
   have ND:vs.length ∉ fl:=by simpa using gB
   cases dP:es.contains vs.length with
   | true =>
    rw [dP] at hv
    try simp only [wn] at hv
    have vi:vs.length∈es:=by simpa using dP
    obtain ⟨v,h',hy,hv⟩:=oE hv;obtain ⟨hl,hv⟩:=sg hv;refine rest v _ h' _ ⟨_,rfl⟩ (mK hp u ho vi hl (.inr ?_)) hv;refine ⟨o,e,ho,λzG ha=>u.below zG (yj ha).1,?_⟩;rw [if_neg ND,if_pos vi,xp vs v V.xF];have:=u.len;refine ⟨by simp;omega,?_⟩;rw [yH gs h' xD O_,u.cur,show wh es vs.length+1=gs.length from u.len.symm,xp gs h' xD];exact hy
   | false =>
    rw [dP] at hv
    try simp only [uj] at hv
    have vi:vs.length ∉ es:=by simpa using dP
    have cJ:wh es (vs.length+1)=wh es vs.length:=by rw [pn hp,if_neg vi];rfl
    cases Jb:rX o.op with
    | true =>
     rw [Jb] at hv
     try simp only [wn] at hv
     obtain ⟨v,hy,hv⟩:=up hv;refine rest v gs h zT ⟨[],S_⟩ ?_ hv;refine ⟨mX ho u.below v,λi vK=>?_,by rw [qW,cJ];exact u.len,by rw [qW,cJ];exact u.cur⟩;rcases Nat.lt_or_ge i vs.length with hlt | Rb
     ·exact QK (λ_ h=>h) hlt (u.lex i hlt)
     ·obtain rfl:i=vs.length:=by rw [qW] at vK;omega
      refine .inr ⟨o,e,ho,λzG ha=>u.below zG (yj ha).1,?_⟩;rw [if_neg ND,if_neg vi,xp vs v V.xF];exact .inl ⟨Jb,h,hy⟩
    | false =>
     rw [Jb] at hv
     try simp only [uj] at hv
     obtain ⟨v,hy,hv⟩:=up hv;obtain ⟨pN,hv⟩:=sg hv;refine rest v gs h _ ⟨[],S_⟩ ?_ hv;refine ⟨mX ho u.below v,λi vK=>?_,by rw [qW,cJ];exact u.len,by rw [qW,cJ];exact u.cur⟩;rcases Nat.lt_or_ge i vs.length with hlt | Rb
     ·exact QK (λ_ h=>List.mem_cons_of_mem _ h) hlt (u.lex i hlt)
     ·obtain rfl:i=vs.length:=by rw [qW] at vK;omega
      refine .inr ⟨o,e,ho,λzG ha=>u.below zG (yj ha).1,?_⟩;rw [if_neg ND,if_neg vi,xp vs v V.xF];refine .inr ⟨λk k1 k2 k3=>?_,List.mem_cons_self⟩;have hlen:=u.len;by_cases hk:k=wh es vs.length
      ·subst hk;rw [u.cur];exact hy
      ·have JH:k<gs.length-1:=O_;refine pN (xw P o.op e (gs.getD k xD) (gs.getD k xD) v) ?_;unfold fg;refine List.mem_map.2 ⟨gs.getD k xD,?_,rfl⟩;rw [List.mem_iff_getElem?];refine ⟨k-jv (vH zQ) es vs.length,?_⟩;rw [List.getElem?_drop,show jv (vH zQ) es vs.length+(k-jv (vH zQ) es vs.length)=k by omega,List.getElem?_dropLast,if_pos JH];rw [List.getD_eq_getElem?_getD,List.getElem?_eq_getElem O_];rfl
end
end
section
open Go Go.RowKit
variable {P:Program} {ι:zw} {W:World} {B:wy} {h:AH} {D:List AD}
section
variable {N:Nat} {ops zQ:Array Oper} {zG:Nat->V} {mem:(Nat->Bool)->AH} {e0:zJ} {ι0:zw} {S:Nat->Bool}
theorem Yr {zG Zt:Nat->V} {S:Nat->Bool}:∀ k,(∀ i,i<k->S i=true->Zt i=zG i)->wK N zQ Zt e0 S k=wK N zQ zG e0 S k
 | 0,_=>rfl
 | k+1,h=>by
  simp only [wK,Yr k λi hi=>h i O_];cases hS:S k with
  | false=>rfl
  | true=>rw [h k O_ hS]
theorem Hx (K:Ok P) (hp:uH zQ=true) (qC:∀ i,wx N zQ i=none) {k:Nat} {o:Oper} (ho:zQ[k]?=some o) (hg:o.guard=none) {e:zJ} (he:Below e (wK N zQ zG e0 (λ_=>true) k)) (hc:xb zQ S) (hr:wR zQ S k) {Kv:V->AH->Prop}
 (hv:vcN P o.op e (mem S) Kv) {a:Act} {W:World} (g:jG P B ι0 N (λ_=>D) zQ zG mem e0 S a W) (Q:Exit->Act->World->Prop) :
 wpOp P zQ Q k (λa' w'=>∃ v h',Kv v h'/\∀ Zt z4I,(∀ i,i<zQ.size->S i=true->Zt i=zG i)->Zt k=v->z4I (ww S k)=h'->jG P B ι0 N (λ_=>D) zQ Zt z4I e0 (ww S k) a' w') a W:=by
 obtain ⟨ι,B',hle,hB,F,r,hl⟩:=g.ex;have re:=rG hp hc hr ho r he;unfold wpOp;rw [ho];simp only;rw [if_pos (by simp [Region.wanted,hg])]
 left
 have y:=N9 (λx hx=>(pm (ops:=zQ) x hx).symm) hv;refine jU (Q:=uK P B' ι N D λ_ _ _=>False) (λx a w p=>by obtain ⟨_,_,_,_,_,_,_,_,f⟩:=p;exact f.elim) (iZ K F re (Kz y) ?_);intro ι' h' v x w' g1 g2 g3 g4;refine ⟨v,h',g4,λZt z4I q1 q2 q3=>⟨ι',B',zw.le_trans hle g1,hB,by rw [q3];exact g2,?_,λi d s dd hl=>by rw [qC i] at hl;cases hl⟩⟩;refine qv hp hc hr ho ?_ (by rw [q2];exact g3);rw [Yr _ q1];exact nX g1 r
theorem R2 (K:Ok P) (hp:uH zQ=true) (qC:∀ i,wx N zQ i=none) {j:Nat} {o:Oper} (ho:zQ[j]?=some o) (hg:o.guard=none) {e:zJ} (he:Below e (wK N zQ zG e0 (λ_=>true) j)) (hc:xb zQ S) (hr:wR zQ S j)
 (hy:xw P o.op e (mem S) (mem (ww S j)) (zG j)) {a:Act} {W:World} (g:jG P B ι0 N (λ_=>D) zQ zG mem e0 S a W) (Q:Exit->Act->World->Prop) :
 wpOp P zQ Q j (jG P B ι0 N (λ_=>D) zQ zG mem e0 (ww S j)) a W:=by
 obtain ⟨ι,B',hle,hB,F,r,hl⟩:=g.ex;have re:=rG hp hc hr ho r he;unfold wpOp;rw [ho];simp only;rw [if_pos (by simp [Region.wanted,hg])]
 left
 have y:=iK (λx hx=>(pm (ops:=zQ) x hx).symm) hy;refine jU (Q:=uK P B' ι N D λ_ _ _=>False) (λx a w p=>by obtain ⟨_,_,_,_,_,_,_,_,f⟩:=p;exact f.elim) (iZ K F re (da y) ?_);rintro ι' h' v x w' g1 g2 g3 ⟨rfl,rfl⟩;exact ⟨ι',B',zw.le_trans hle g1,hB,g2,qv hp hc hr ho (nX g1 r) g3,λi d s dd hl=>by rw [qC i] at hl;cases hl⟩
theorem Dx {b:Nat->Bool} {es:List Nat} {kk:Nat} (h:∀ i∈es,b i=true->i<kk):sC es b<=wh es kk :=
 List.countP_mono_left λe he hb=>by simpa using h e he hb
theorem iO {α:Type} {l l':List α} {d:α} {i:Nat} (h:i<l.length):(l++l').getD i d=l.getD i d:=by
 simp [List.getElem?_append_left h]
end
def KK (P:Program) (ops:Array Oper) (i:Nat):Bool:=match ops[i]? with
 | some o=>(match o.op with
  | .alloc t=>(tt P (λ_=>.xF) (.alloc t)).isSome
  | _=>false)
 | none=>false
def ie (P:Program) (N:Nat) (ops:Array Oper) (es fl:List Nat) (l kk:Nat):Bool :=
 qT P N (vI ops fl l) es&&eG ops&&uH ops&&flB N ops fl l&&(fl.all λi=>es.contains i)&&(fl.all λi=>KK P ops i)&&es.contains kk&&!fl.contains kk&&(decide (kk<l)||fl.isEmpty)&&((List.range ops.size).all λi=>decide (i<=kk)||uW (vH (vI ops fl l)) kk i)
theorem Tn (K:Ok P) {N:Nat} {ops:Array Oper} {es fl:List Nat} {l kk:Nat} {id:Nat} {Q:yT->zJ->AH->Prop} {e:zJ} {a:Act} (hd:ie P N ops es fl l kk=true) (F:ye P B ι h W) (r:wH P ι N D e a)
 (hv:Nt P N (vI ops fl l) (vH (vI ops fl l)) es fl kk 0 (vI ops fl l).toList [h] h [] (Q .normal) (eT N ops fl e)):(Code.region id ops true).wp P (uK P B ι N D Q) a W:=by
 unfold ie at hd;simp only [Bool.and_eq_true] at hd;obtain ⟨⟨⟨⟨⟨⟨⟨⟨⟨hd,hbo⟩,hpo⟩,hfb⟩,tI⟩,M0⟩,BQ⟩,hkf⟩,hkl⟩,UP⟩:=hd;have tI:∀ i∈fl,i∈es:=λi hi=>by have:=List.all_eq_true.1 tI i hi;simpa using this
 have BQ:kk∈es:=by simpa using BQ
 have hkf:kk ∉ fl:=by simpa using hkf
 have hkl:kk<l\/fl=[]:=by simpa using hkl
 have ew:=eL (ops:=ops) (fl:=fl) (l:=l);have UX:∀ i,(vI ops fl l)[i]?=(ops[i]?).map λo=>seen ops fl (ops.toList.getD l default) i o:=λi=>bJ;generalize vI ops fl l=zQ at *;unfold qT rM at hd;simp only [Bool.and_eq_true] at hd;obtain ⟨⟨⟨⟨⟨⟨h1,h2⟩,h3⟩,h4⟩,h5⟩,h6⟩,h7⟩:=hd;have hp:=ma h4;have UP:∀ i,i<ops.size->kk<i->uW (vH zQ) kk i=true:=λi hi hk=>by
  have:=List.all_eq_true.1 UP i (List.mem_range.2 hi);simp only [Bool.or_eq_true,decide_eq_true_eq] at this;rcases this with q | q
  ·omega
  ·exact q
 have hks:kk<zQ.size:=by have:=List.all_eq_true.1 h5 kk BQ;simpa using this
 have hr0:wh es 0=0:=by unfold wh;rw [List.countP_eq_zero];intro e _;simp
 have qC:∀ j,wx N zQ j=none:=by
  intro j;rcases Nat.lt_or_ge j zQ.size with hj | hj
  ·have:=List.all_eq_true.1 h7 j (List.mem_range.2 hj);simpa using this
  ·unfold wx;rw [Array.getElem?_eq_none hj]
 have Rh:∀ (j:Nat) (o:Oper),zQ[j]?=some o->o.guard=none:=λj o q=>by
  rw [Array.all_eq_true'] at h6;have:=h6 o (Array.mem_of_getElem? q);simpa using this
 have hrn:wh es zQ.size=es.length:=by
  unfold wh;rw [List.countP_eq_length];intro j hj;exact List.all_eq_true.1 h5 j hj
 -- the first part of the text
 obtain ⟨vs0,O4,h0,Jd,e1,l0,r1,r2,⟨x0,_⟩,⟨y0,r4⟩,u0,hv0,r7⟩:=XS (P:=P) (N:=N) (zQ:=zQ) (es:=es) (fl:=fl) (kk:=kk) (e0:=eT N ops fl e) tI hp zQ.toList [] [h] h [] (eT N ops fl e) (by intro i hi;simp)
  ⟨λzG _ t=>.inr rfl,λi hi=>by simp at hi,by simp [hr0],by simp [hr0]⟩ hv
 simp only [List.length_nil,Nat.zero_add,Array.length_toList] at r1;have r7:vs0.length=kk/\l0≠[]:=by
  rcases r7 with q | ⟨q1,q2⟩
  ·exact q
  ·subst q1;simp only [List.length_nil,Nat.add_zero] at r1 q2;omega
 obtain ⟨JJ,r8⟩:=r7;obtain ⟨o0,l1,rfl⟩:∃ o0 l1,l0=o0 :: l1:=by
  cases l0 with
  | nil=>exact absurd rfl r8
  | cons a b=>exact ⟨a,b,rfl⟩
 have M1:zQ[vs0.length]?=some o0:=by have:=r2 0 S_;simpa using this
 simp only [Nt] at hv0;have hbt:Nat.beq vs0.length kk=true:=by rw [JJ];exact Nat.beq_refl kk
 rw [hbt] at hv0
 try simp only [wn] at hv0
 have hm0:vs0.length∈es:=by rw [JJ];exact BQ
 -- Ja comes of each end of the call
 have outc:∀ v h',dM (qB O4.length h' Jd) (Nt P N zQ (vH zQ) es fl kk (vs0.length+1) l1 (O4++[h']) h' Jd (Q .normal) (zJ.put N o0.dst v e1)) ->
  ∃ vs gs h2 e2 rl,vs.length=zQ.size/\(∃ x,vs=(vs0++[v])++x)/\(∃ y,gs=(O4++[h'])++y)/\iN P N zQ es fl kk (eT N ops fl e) vs gs h2 rl e2/\Q .normal e2 h2:=by
  intro v h' q;obtain ⟨q1,q2⟩:=sg q;have u1:=mK hp u0 M1 (v:=v) (h':=h') hm0 q1 (.inl JJ);have qW:(vs0++[v]).length=vs0.length+1:=S_;obtain ⟨uz,gA,h2,vj,e',l',s1,s2,⟨x,s3⟩,⟨y,s4⟩,s5,s6,s7⟩:=XS (P:=P) (N:=N) (kk:=kk) tI hp l1 (vs0++[v]) (O4++[h']) h' Jd _ (by
   intro i hi;rw [qW];have:=r2 (i+1) (by simp;omega);simpa [Nat.add_assoc,Nat.add_comm 1 i] using this) u1 (by rw [qW];exact q2)
  rcases s7 with ⟨s7,_⟩ | ⟨rfl,_⟩
  ·have:uz.length=vs0.length+1+x.length:=by rw [s3];simp;omega
   omega
  ·simp only [List.length_nil,Nat.add_zero,List.length_cons] at s1 r1;exact ⟨uz,gA,h2,e',vj,by rw [s1,qW];omega,⟨x,s3⟩,⟨y,s4⟩,s5,s6⟩
 -- the static facts
 unfold flB at hfb;simp only [Bool.and_eq_true,decide_eq_true_eq,Bool.not_eq_true',List.contains_eq_mem,decide_eq_false_iff_not] at hfb;obtain ⟨⟨⟨⟨b1,b2⟩,b3⟩,b4⟩,b5⟩:=hfb;have BS:ops[l]?=some ops[l]:=by simp [b1]
 have hold:ops.toList.getD l default=ops[l]:=by simp [b1]
 have O3:∀ i∈fl,∃ o d,ops[i]?=some o/\o.guard=none/\o.dst=some d/\d<N/\(∀ (j:Nat) (o':Oper),ops[j]?=some o'->o'.dst=some d->j=i)/\(∃ e∈ops[l].after,Region.binds .any e=true/\e.on=i)/\∀ t∈o.looksAt ops,∀ i'∈fl,(ops[i']?).bind (·.dst)≠some t:=by
  intro i hi;have:=List.all_eq_true.1 b4 i hi;split at this
  ·rename_i o ho;simp only [Bool.and_eq_true] at this;obtain ⟨⟨⟨g1,g2⟩,g4⟩,g3⟩:=this;split at g2
   ·rename_i d JM;simp only [Bool.and_eq_true,decide_eq_true_eq] at g2;rw [BS] at g3;simp only [Array.any_eq_true',Bool.and_eq_true,beq_iff_eq] at g3;refine ⟨o,d,ho,by simpa using g1,JM,g2.1,λj o' hj BT=>?_,g3,λt ht i' vK=>by
     have:=List.all_eq_true.1 (List.all_eq_true.1 g4 t ht) i' vK;simpa using this⟩
    have mg:j<ops.size:=(Array.getElem?_eq_some_iff.1 hj).1;have:=List.all_eq_true.1 g2.2 j (List.mem_range.2 mg);rw [hj] at this;simp only [Option.bind_some,Bool.or_eq_true,beq_iff_eq,bne_iff_ne,ne_eq] at this;rcases this with h | h
    ·exact h
    ·exact absurd BT h
   ·cases g2
  ·cases this
 have NE:∀ i∈fl,∀ o,ops[i]?=some o->zQ[i]?=some { o with after:=qo ops[l] o i }:=λi hi o ho=>by
  rw [UX,ho,hold];simp [seen,hi]
 have Zr:∀ j o,ops[j]?=some o->j ∉ fl->zQ[j]?=some o:=λj o ho hj=>by rw [UX,ho];simp [seen,hj]
 have flal:∀ i∈fl,∃ o t ob mk,ops[i]?=some o/\o.op=.alloc t/\tt P (λ_=>.xF) (.alloc t)=some (ob,mk):=λi hi=>by
  have:=List.all_eq_true.1 M0 i hi;unfold KK at this;split at this
  ·rename_i o ho;split at this
   ·rename_i t ht;obtain ⟨x,hx⟩:=Option.isSome_iff_exists.1 this;exact ⟨o,t,x.1,x.2,ho,ht,hx⟩
   ·cases this
  ·cases this
 let Zs:Nat->AO × (Nat->V):=λi=>match ops[i]? with
  | some o=>(tt P (λ_=>.xF) o.op).getD (.mp 0 0 [],λ_=>.xF)
  | none=>(.mp 0 0 [],λ_=>.xF)
 have Jc:∀ i∈fl,∀ o,ops[i]?=some o->∀ ρ,tt P ρ o.op=some ((Zs i).1,(Zs i).2):=λi hi o ho ρ=>by
  obtain ⟨o',t,ob,mk,g1,g2,g3⟩:=flal i hi;rw [ho] at g1;cases g1;have e1:Zs i=(ob,mk):=by show (match ops[i]? with | some o=>_ | none=>_)=_;rw [ho];show (tt P _ o.op).getD _=_;rw [g2,g3];rfl
  rw [e1,g2];exact g3
 let NF:Nat->Tmp:=λi=>((ops[i]?).bind (·.dst)).getD 0
 have hds:∀ i o d,ops[i]?=some o->o.dst=some d->NF i=d:=λi o d ho JM=>by show ((ops[i]?).bind (·.dst)).getD 0=d;rw [ho];simp [JM]
 have X:∀ zG,fI P N ops zQ fl l zG (eT N ops fl e) (λi=>(Zs i).1) (λi=>(Zs i).2) NF:=by
  intro zG;refine ⟨ew,Zr,λi hi=>?_,λi hi=>?_,λi hi o ho t ht i' vK wO=>?_,b2,b1,λi hi=>?_,λj o ho hj qV ed he hb hf S hc hS=>?_,b3⟩
  ·obtain ⟨o,d,g1,g2,g3,g4,g5,g6⟩:=O3 i hi;refine ⟨o,qo ops[l] o i,g1,NE i hi o g1,g2,by rw [hds i o d g1 g3];exact g3,⟨[],λt=>.inl rfl,Jc i hi o g1 _⟩,λed he hb=>?_⟩;unfold qo at he;have he:=Array.mem_filter.1 he;refine ⟨λ_=>by simpa using he.2,?_⟩;rcases Array.mem_append.1 he.1 with h | h
   ·exact .inr ⟨ed,h,hb,rfl⟩
   ·exact .inl ⟨ops[l],BS,ed,h,hb,rfl⟩
  ·obtain ⟨o,d,g1,g2,g3,g4,g5,g6⟩:=O3 i hi;rw [hds i o d g1 g3];exact ⟨g4,Xr fl e i d hi (by rw [g1];exact g3) g4,g5⟩
  ·obtain ⟨o',d,g1,g2,g3,g4,g5,g6,g7⟩:=O3 i hi;rw [ho] at g1;cases g1;obtain ⟨o2,d2,k1,k2,k3,_⟩:=O3 i' vK;refine g7 t ht i' vK ?_;rw [k1];show o2.dst=some t;rw [k3,<- wO,hds i' o2 d2 k1 k3]
  ·obtain ⟨o,d,g1,g2,g3,g4,g5,⟨ed,g6,g7,g8⟩,_⟩:=O3 i hi;exact ⟨ops[l],BS,ed,g6,g7,g8⟩
  ·have mg:j<ops.size:=(Array.getElem?_eq_some_iff.1 ho).1;have:=List.all_eq_true.1 b5 j (List.mem_range.2 mg);rw [ho] at this;simp only [Bool.or_eq_true,List.contains_eq_mem,decide_eq_true_eq,beq_iff_eq,Bool.not_eq_true'] at this;rcases this with (h | h) | (h | h)
   ·exact absurd h hj
   ·exact absurd h qV
   ·exfalso;have vk:=h;rw [Array.any_eq_false'] at vk;have:=vk ed he;simp [hb,hf] at this
   ·unfold uW at h;exact lT j l (by simpa using h) S hc (λo' rD=>by rw [ho] at rD;cases rD;exact hS)
 -- behind the call
 have lexF:∀ vs gs h2 rl e2,vs.length=zQ.size->iN P N zQ es fl kk (eT N ops fl e) vs gs h2 rl e2->∀ j,j<ops.size->j≠kk->bW P N zQ (λi=>vs.getD i .xF) (λS=>gs.getD (sC es S) xD) (λ_=>D) (eT N ops fl e) j:=by
  intro vs gs h2 rl e2 hn u j hj Je;have ha:ui (λi=>vs.getD i .xF) vs:=λk _=>rfl;have hlen:gs.length=es.length+1:=by rw [u.len,hn,hrn]
  obtain q | ⟨o,ej,q1,q2,q3⟩:=u.lex j (by rw [hn,ew];exact hj)
  ·exact absurd q Je
  refine .ord (qC j) (λi _=>qC i) ej (q2 _ ha) o q1 (by unfold kO;rw [Rh j o q1]) (λS hc hr=>?_) λ_ _ _=>rfl;by_cases hf:j∈fl
  ·rw [if_pos hf] at q3;have hm:=tI j hf;show xw P o.op ej (gs.getD (sC es S) xD) (gs.getD (sC es (ww S j)) xD) (vs.getD j .xF);rw [vX hp hm hr.1,qa hp hm hc hr];obtain ⟨q4,q5,ob,mk,q6,q7,q8⟩:=q3;rw [q7,q8];have hz:=(jm q6).1 (gs.getD (wh es j) xD);unfold xw;cases qU:o.op <;> rw [qU] at hz q6 <;> first | exact hz | (exfalso;unfold tt at q6;cases q6;done)
  ·rw [if_neg hf] at q3;show xw P o.op ej (gs.getD (sC es S) xD) (gs.getD (sC es (ww S j)) xD) (vs.getD j .xF);by_cases hm:j∈es
   ·rw [if_pos hm] at q3;rw [vX hp hm hr.1,qa hp hm hc hr];exact q3.2
   ·rw [if_neg hm] at q3;rw [oc hm];rcases q3 with ⟨q3,g,q4⟩ | ⟨q3,_⟩
    ·exact nU q3 q4
    ·exact q3 _ (XZ hc hr) (Xg hc hr) (by rw [hlen];have:=Sr (es:=es) (S:=S);omega)
 have floF:∀ vs gs h2 rl e2,vs.length=zQ.size->iN P N zQ es fl kk (eT N ops fl e) vs gs h2 rl e2->gs.getD 0 xD=h->∀ i∈fl,∀ T,xb zQ T->wR zQ T i ->
  me h (gs.getD (sC es T) xD)/\vs.getD i .xF=(Zs i).2 (gs.getD (sC es T) xD).next/\gs.getD (sC es (ww T i)) xD=(gs.getD (sC es T) xD).make (Zs i).1/\D=D:=by
  intro vs gs h2 rl e2 hn u hg i hi T hc hr;have hm:=tI i hi;obtain ⟨oi,d,g1,_⟩:=O3 i hi;have JN:i<zQ.size:=by rw [ew];exact (Array.getElem?_eq_some_iff.1 g1).1
  obtain q | ⟨o,ej,q1,q2,q3⟩:=u.lex i (by rw [hn];exact JN)
  ·exact absurd (q▸hi) hkf
  rw [if_pos hi] at q3;obtain ⟨q4,q5,ob,mk,q6,q7,q8⟩:=q3;have e2:=NE i hi oi g1;rw [q1] at e2;cases e2;have e3:=Jc i hi oi g1 (xl ej);have q6:tt P (xl ej) oi.op=some (ob,mk):=q6;rw [q6] at e3;cases e3;rw [vX hp hm hr.1,qa hp hm hc hr];exact ⟨hg▸q5,q7,q8,rfl⟩
 -- Ja is seen,and ready
 have z4J:∀ {S:Nat->Bool} {j:Nat},xb ops S->wR ops S j->j ∉ fl->(j≠l\/fl=[])->j<ops.size->wR zQ (pi fl l S) j:=by
  intro S j hc hr hj qV mg;rcases qV with qV | qV
  ·exact (X (λ_=>.xF)).ready hc hr hj qV mg
  ·refine ⟨by unfold pi;rw [hr.1];rfl,λo ho e he hb=>?_⟩;have Zp:ops[j]?=some ops[j]:=by simp [mg]
   rw [Zr j _ Zp hj] at ho;cases ho;refine Zi (hr.2 _ Zp e he hb) λhf=>?_;rw [qV] at hf;cases hf
 have z4K:∀ {S:Nat->Bool} {j:Nat},j ∉ fl->(j≠l\/fl=[])->pi fl l (ww S j)=ww (pi fl l S) j:=by
  intro S j hj qV;rcases qV with qV | qV
  ·exact QX hj qV
  ·subst qV;have:∀ S,pi [] l S=S:=λS=>by funext i;unfold pi;simp
   rw [this,this]
 have before:∀ {V:Nat->Bool} {i:Nat},xb zQ V->V kk=false->V i=true->i<ops.size->i<kk:=by
  intro V i hc hk hi JN;rcases Nat.lt_trichotomy i kk with q | q | q
  ·exact q
  ·subst q;rw [hk] at hi;cases hi
  ·exfalso;have:=lT i kk (by have:=UP i JN q;simpa [uW] using this) V hc (λo ho e he hb=>hc i o ho hi e he hb);rw [hk] at this;cases this
 have visk:∀ {S:Nat->Bool},S kk=false->pi fl l S kk=false:=λh=>by unfold pi;rw [h];rfl
 have esz:∀ i∈es,i<ops.size:=λi hi=>by have:=List.all_eq_true.1 h5 i hi;rw [ew] at this;simpa using this
 have zd8:O4.length=wh es kk+1:=by rw [u0.len,JJ]
 obtain ⟨B1,F1,hBL,Zq⟩:∃ B1,ye P B1 ι h W/\wP B B1/\∀ n,(∃ o',h.m n=some o'/\o'.w8=false)->∃ L,ι n=some L/\B1.F L.wC:=⟨_,F.hold⟩
 -- the state behind a part of the z4L
 let I0:(Nat->Bool)->Act->World->Prop:=K1 P B1 ι N (λ_=>D) zQ fl l (λi=>(Zs i).1) (λi=>(Zs i).2) NF (λi=>vs0.getD i .xF) (λS=>O4.getD (sC es S) xD) (eT N ops fl e)
 let I1:(Nat->Bool)->Act->World->Prop:=λS a W=>∃ vs gs h2 rl e2,vs.length=zQ.size/\gs.getD 0 xD=h/\iN P N zQ es fl kk (eT N ops fl e) vs gs h2 rl e2/\Q .normal e2 h2 /\
  K1 P B1 ι N (λ_=>D) zQ fl l (λi=>(Zs i).1) (λi=>(Zs i).2) NF (λi=>vs.getD i .xF) (λS=>gs.getD (sC es S) xD) (eT N ops fl e) S a W
 let I:(Nat->Bool)->Act->World->Prop:=λS a W=>(S kk=false/\I0 S a W)\/(S kk=true/\I1 S a W)
 have hS0:tG (Array.replicate ops.size false)=λ_=>false:=by
  funext i;unfold tG;by_cases hi:i<ops.size <;> simp [hi]
 have UV:∀ zG k,wK N zQ zG (eT N ops fl e) (λ_=>false) k=eT N ops fl e:=by
  intro zG k;induction k with
  | zero=>rfl
  | succ k ih=>simp only [wK,cond_false,ih]
 refine wp_region_any h1 (fz (I:=I) hbo (λS j a W mg hc hr g=>?_) (λS a w hS g=>?_) ops.size _ a _ S_ ?_ ?_ ?_)
 ·have Zp:ops[j]?=some ops[j]:=by simp [mg]
  rcases g with ⟨hk,g⟩ | ⟨hk,vs,gs,h2',rl,e2,s1,s4,s2,s3,g⟩
  rotate_left
  ·-- behind the call
   have Je:j≠kk:=λq=>by have:=hr.1;rw [q,hk] at this;cases this
   refine wpOp_mono (λa' w' g'=>.inr ⟨by rw [xO S (Ne.symm Je)];exact hk,vs,gs,h2',rl,e2,s1,s4,s2,s3,g'⟩) (fU K hpo h2 qC (X _) (λ_=>lexF vs gs h2' rl e2 s1 s2 j mg Je) Zq (λ_=>floF vs gs h2' rl e2 s1 s2 s4) mg hc hr g _)
  have hV:=visk (S:=S) hk;have JO:=(X (λ_=>.xF)).closed hc;by_cases JP:j∈fl
  ·-- a variable is made
   have Je:j≠kk:=λq=>hkf (q▸JP);exact wpOp_mono (λa' w' g'=>.inl ⟨by rw [xO S (Ne.symm Je)];exact hk,g'⟩) (fU K hpo h2 qC (X _) (λq=>absurd JP q) Zq (λq=>absurd (q▸JP) b2) mg hc hr g _)
  have qV:j≠l\/fl=[]:=by
   by_cases q:fl=[]
   ·exact .inr q
   ·refine .inl λe=>?_;subst e;have hkl:kk<j:=hkl.resolve_right q
    -- the first use of the eh is behind the call
    have hcS:xb zQ S:=by
     intro i o ho hi ed he hb;by_cases hif:i∈fl
     ·obtain ⟨oi,d,g1,_⟩:=O3 i hif;rw [NE i hif oi g1] at ho;cases ho;unfold qo at he;have he:=(Array.mem_filter.1 he).1;rcases Array.mem_append.1 he with h | h
      ·exact hc i oi g1 hi ed h hb
      ·exact hr.2 _ Zp ed h hb
     ·have JN:i<ops.size:=by have:=(Array.getElem?_eq_some_iff.1 ho).1;rw [ew] at this;exact this
      have g1:ops[i]?=some ops[i]:=by simp [JN]
      rw [Zr i _ g1 hif] at ho;cases ho;exact hc i _ g1 hi ed he hb
    have:=lT j kk (by have:=UP j mg hkl;simpa [uW] using this) S hcS (λo ho ed he hb=>by
     rw [Zr j _ Zp JP] at ho;cases ho;exact hr.2 _ Zp ed he hb)
    rw [hk] at this;cases this
  obtain ⟨Bf,hb,gd,Ra⟩:=g;have BU:=z4J hc hr JP qV mg;have hvj:=Zr j _ Zp JP;have BO:=z4K (S:=S) JP qV;have ne:∀ i∈fl,i≠j:=λi hi q=>JP (q▸hi);have qH:∀ i∈fl,(ops[j]).dst≠some (NF i):=λi hi hd=>JP (((X (λ_=>.xF)).slot i hi).2.2 j _ Zp hd▸hi)
  -- the eh BR wait
  have wait:∀ a':Act,(∀ i∈fl,a'.tmps.getD (NF i) undef=a.tmps.getD (NF i) undef)->ww S j l=false->∃ bl:Nat->Nat,(∀ i∈fl,ww S j i=true->¬ B1.F (bl i)/\JE P Bf ((Zs i).1) ((Zs i).2) (a'.tmps.getD (NF i) undef) (bl i)) /\
   ∀ i∈fl,∀ i'∈fl,ww S j i=true->ww S j i'=true->i≠i'->bl i≠bl i':=by
   intro a' ht hl;have hSl:S l=false:=by
    by_cases q:l=j
    ·subst q;rw [uG] at hl;cases hl
    ·rw [xO S q] at hl;exact hl
   obtain ⟨bl,q1,q2⟩:=Ra hSl;refine ⟨bl,λi hi hs=>?_,λi hi i' vK hs dO wO=>?_⟩
   ·rw [xO S (ne i hi)] at hs;rw [ht i hi];exact q1 i hi hs
   ·rw [xO S (ne i hi)] at hs;rw [xO S (ne i' vK)] at dO;exact q2 i hi i' vK hs dO wO
  by_cases Je:j=kk
  ·-- the call
   subst Je;rw [JJ] at M1;have eo:ops[j]=o0:=by rw [M1] at hvj;cases hvj;rfl
   have hm:(O4.getD (sC es (pi fl l S)) xD)=h0:=by
    rw [qa hp BQ JO BU,<- JJ];exact u0.cur
   have st:=Hx (P:=P) (ι0:=ι) (B:=Bf) (D:=D) (mem:=λS=>O4.getD (sC es S) xD) (zG:=λi=>vs0.getD i .xF) (e:=e1) K h2 qC M1 (Rh _ _ M1) (by have:=u0.below (λi=>vs0.getD i .xF) (λk _=>rfl);rw [JJ] at this;exact this) JO BU (by rw [hm];exact hv0) gd (uK P B ι N D Q);have st2:=mc (ds:=NF) Zp fl qH (kg (X (λ_=>.xF)).NC Zp (by rw [eo];exact M1) st);refine wpOp_mono (λa' w' g'=>?_) st2;obtain ⟨⟨v,h',q1,q2⟩,q3⟩:=g';obtain ⟨vs,gs,h3,e3,zd9,s1,⟨x,s2⟩,⟨y,s3⟩,s4,s5⟩:=outc v h' q1;refine .inr ⟨uG ..,vs,gs,h3,zd9,e3,s1,by rw [s3,r4,List.append_assoc,List.append_assoc];rfl,s4,s5,Bf,hb,?_,wait a' q3⟩;rw [BO];refine q2 _ _ (λi JN hi=>?_) ?_ ?_
   ·have:=before JO hV hi (by rw [ew] at JN;exact JN);show vs.getD i .xF=vs0.getD i .xF;rw [s2,List.append_assoc,iO O_]
   ·show vs.getD j .xF=v;rw [s2,iO (by simp;omega),<- JJ,xp]
   ·show gs.getD (sC es (ww (pi fl l S) j)) xD=h';rw [vX hp BQ hV,qa hp BQ JO BU,<- zd8,s3,iO S_,xp]
  ·-- ahead of the call
   have hjlt:j<kk:=by
    rcases Nat.lt_trichotomy j kk with q | q | q
    ·exact q
    ·exact absurd q Je
    ·have:=cZ (UP j mg q) JO BU;rw [hV] at this;cases this
   obtain q | ⟨o,ej,q1,q2,q3⟩:=u0.lex j O_
   ·exact absurd q Je
   have hcnt:sC es (pi fl l S)<=wh es kk:=Dx λi hi hb=>before JO hV hb (esz i hi);have hy:xw P o.op ej ((λS=>O4.getD (sC es S) xD) (pi fl l S)) ((λS=>O4.getD (sC es S) xD) (ww (pi fl l S) j)) ((λi=>vs0.getD i .xF) j):=by
    show xw P o.op ej (O4.getD (sC es (pi fl l S)) xD) (O4.getD (sC es (ww (pi fl l S) j)) xD) (vs0.getD j .xF);rw [if_neg JP] at q3;by_cases hm:j∈es
    ·rw [if_pos hm] at q3;rw [vX hp hm BU.1,qa hp hm JO BU];exact q3.2
    ·rw [if_neg hm] at q3;rw [oc hm];rcases q3 with ⟨q3,g,q4⟩ | ⟨q3,_⟩
     ·exact nU q3 q4
     ·exact q3 _ (XZ JO BU) (Xg JO BU) O_
   have eo:ops[j]=o:=by rw [q1] at hvj;cases hvj;rfl
   have st:=R2 (P:=P) (ι0:=ι) (B:=Bf) (D:=D) (mem:=λS=>O4.getD (sC es S) xD) (zG:=λi=>vs0.getD i .xF) K h2 qC q1 (Rh _ _ q1) (q2 _ (λk _=>rfl)) JO BU hy gd (uK P B ι N D Q);have st2:=mc (ds:=NF) Zp fl qH (kg (X (λ_=>.xF)).NC Zp (by rw [eo];exact q1) st);refine wpOp_mono (λa' w' g'=>.inl ⟨by rw [xO S (Ne.symm Je)];exact hk,Bf,hb,by rw [BO];exact g'.1,wait a' g'.2⟩) st2
 ·-- the end
  obtain ⟨hk,_⟩ | ⟨hk,vs,gs,h2',rl,e2,s1,s4,s2,s3,g⟩:=g
  ·rw [hS kk (by rw [<- ew];exact hks)] at hk;cases hk
  obtain ⟨Bf,q0,gd,_⟩:=g;obtain ⟨ι',B',k1,k2,k3,k4,k5⟩:=gd.ex;have hv:∀ i,i<ops.size->pi fl l S i=true:=λi hi=>Zi (hS i hi) λ_=>hS l b1;refine ⟨ι',h2',e2,.normal,k1,?_,?_,trivial,s3⟩
  ·have:sC es (pi fl l S)=es.length:=by
    unfold sC;rw [List.countP_eq_length];intro j hj;exact hv j (esz j hj)
   have e4:gs.getD (sC es (pi fl l S)) xD=h2':=by rw [this,<- hrn,<- s1];exact s2.cur
   rw [e4] at k3;exact k3.V5 (hBL.trans (q0.trans k2))
  ·refine ow k4 λt=>?_;rw [rK (S:=pi fl l S) (S':=λ_=>true) t zQ.size λi hi _=>hv i (by rw [<- ew];exact hi)];have:=s2.below (λi=>vs.getD i .xF) (λk _=>rfl);rw [s1] at this;exact this t
 ·unfold left;refine Nat.le_trans List.countP_le_length ?_;simp
 ·rw [hS0];intro i o ho h;cases h
 ·rw [hS0];have zda:pi fl l (λ_=>false)=λ_=>false:=by funext i;rfl
  have hc0:sC es (λ_=>false)=0:=by unfold sC;rw [List.countP_eq_zero];intro _ _;simp
  refine .inl ⟨rfl,_,wP.refl _,⟨ι,_,zw.le_refl _,wP.refl _,?_,?_,?_⟩,λ_=>⟨λ_=>0,(λi _ h=>nomatch h),(λi _ i' _ h=>nomatch h)⟩⟩
  ·show ye P B1 ι (O4.getD (sC es (pi fl l λ_=>false)) xD) _;rw [zda,hc0,r4,iO S_];exact F1.drew _
  ·rw [zda,UV];exact ow r λt=>cC fl e t
  ·intro i d s dd hl h;rw [qC i] at hl;cases hl
end
end Go.Ab
end
