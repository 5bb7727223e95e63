import Derived.Test.YtdbgifdfdhhjcaaGreatV16
import Derived.Test.YtdbgifdfdhhjcaaGreatV15
import Derived.Test.YtdbgifdfdhhjcaaGreatV13
import Derived.Test.YtdbgifdfdhhjcaaGreatV06
import Derived.Test.YtdbgifdfdhhjcaaGreatV08
import Derived.Carry
import Derived.ChangeArms
set_option linter.unusedVariables false
set_option linter.unusedSimpArgs false
set_option linter.unusedSectionVars false
noncomputable section
namespace Go.Proofs.YtdbgifdfdhhjcaaGreat.Sh
open Go Go.Ab Go.RowKit
open Go.Proofs.YtdbgifdfdhhjcaaGreat.Ru (Pg yL)
open Go.Proofs.YtdbgifdfdhhjcaaGreat.wT (Rc nE uV uD uL qM c1 tE rS w9 qO yR)
set_option maxRecDepth 10000
set_option maxHeartbeats 4000000
set_option linter.unusedSectionVars false
structure Vn where
 ts:Nat
 body:List UInt8
 deriving DecidableEq
def Dt.vn (d:Dt):Vn:=⟨d.ts,d.body⟩
def uC (d:Vn):V:=.agg [.int .u32 d.ts,.agg (zd d.body)]
theorem Uf {d:Vn} (h:d.body.length=64):zf Pg (uC d) 78=true:=by
 have:zf Pg (uC d) 78=(zf Pg (.agg (zd d.body)) 73&&true):=K_;rw [this,vO h];rfl
theorem z3i:xk Pg 78=some (uC ⟨0,xM 64⟩):=K_
theorem KD {d:Vn} (h:d.body.length=64):zD Pg 78 [(0,.int .u32 d.ts),(1,.agg (zd d.body))]=some (uC d):=by
 have h1:=vO h;refine uR [56,73] z3i K_ ?_;have h2:zf Pg (.int .u32 d.ts) 56=true:=K_;simp [xK,h1,h2,uC]
theorem z65:Pg.bytesOf 78<=1000:=E_
theorem zbP:gI Pg 65 65 78=true:=K_
theorem z2y {n:Nat} (h:n<=1000001):n*Pg.bytesOf 78<=140737488355328:=Nat.le_trans (Nat.mul_le_mul h z65) D_
theorem shVs {e:TypeId} {h0 h:AH} {x:V} {xs:List V} (b:j0 e h0 h x xs):zf Pg x 65=true:=by
 rcases b with ⟨rfl,_⟩ | ⟨n,_,_,rfl,_⟩ <;> kernel_rfl
abbrev ouP (n:Nat):V:=.ptr (some ⟨n,.one 65,[]⟩)
abbrev TV:xr:=[(1,78,0),(0,65,0)]
abbrev TW:xr:=Yx
theorem zaE {h0 h:AH} {d:Dt} {no:Nat} {sv:V} {l:List Vn} (kN:d.ok) (l0:h0.next<=no) (ln:no<h.next) (fo:h.m no=some (.cells true (.one 65) sv)) (b:j0 78 h0 h sv (l.map uC)) (hl:l.length<=1000000) :
 z0q 115 [d.v,ouP no] h (xj TV h (.bool true) λh'=>∃ qL,(∀ T,zb T h0 h->zb T h0 h')/\h'.m no=some (.cells true (.one 65) qL)/\j0 78 h0 h' qL ((l++[d.vn]).map uC)):=by
 have g1:yF d.v ([]++[1])=some (.int .u32 d.ts):=rfl;have g3:yF d.v ([]++[3])=some (.agg (zd d.body)):=rfl;have hb:=kN.body;have hvn:d.vn.body.length=64:=hb;refine C115 _ _ _ _ ?_;refine zq (yl (h:=h) (tL kN)) λh1 u1=>?_;have n1:=u1.next;have f1:=u1.at_;have q1:zb [] h h1:=zb.new u1;have fo1:=q1.at fo ln rfl;refine zl fo1 K_ (w:=sv) rfl ?_;refine zx K_ ?_;refine zl f1 K_ g1 ?_;refine zx K_ ?_;refine zl f1 K_ g3 ?_;refine z6 (show zD Pg 78 [(0,.int .u32 d.ts),(1,.agg (zd d.body))]=some (uC d.vn) from KD hvn) ?_;refine zq (mV (t:=65) (e:=78) K_ z3i (Uf hvn)) λh2 u2=>?_;have n2:=u2.next;have q2:zb [] h h2:=q1.trans (zb.new u2);have b2:=b.zA q2 rfl;obtain ⟨qL,h3,e3,b3,q3,y3⟩:=b2.app (t:=65) (xt:=65) (y:=.y8 (some (⟨h1.next,.row 78,[]⟩,0)) 1) (by
  have:=l0;omega) zbP (wV u2.at_) S_ (z2y (by rw [List.length_map];show l.length+1<=_;omega))
 refine ze e3 ?_;have q23:zb TV h h3:=(q2.sub rfl).trans (q3.sub rfl);have fo3:=q3.at (q2.at fo ln rfl) O_ rfl;refine zq (zM (p:=[]) fo3 K_ rfl (shVs b3) rfl) λh4 u4=>?_;have n4:=u4.next;have q4:zb [(0,65,0)] h3 h4:=zb.vP u4 fo3 rfl rfl;refine ⟨rfl,q23.trans (q4.sub rfl),qL,λT q=>?_,u4.at_,?_⟩
 ·exact (y3 T (q.trans (q2.sub rfl))).ya u4 l0
 ·have e:(l++[d.vn]).map uC=l.map uC++[uC d.vn]:=by rw [List.map_append];rfl
  rw [e];exact b3.zA q4 rfl
def Ca.dB (no:Nat):Nat->Ca->Dt->List Vn->(Int × List Vn) × Ca
 | 0,c,_,out=>((0,out),c)
 | m+1,c,v,out=>if v.pp=0 then ((0,out++[v.vn]),c) else if (c.xE no v).1.2=0 then Ca.dB no m (c.xE no v).2 (c.xE no v).1.1 (out++[v.vn]) else (((c.xE no v).1.2,out++[v.vn]),(c.xE no v).2)
def Ca.ends (no:Nat):Nat->Ca->Dt->Prop
 | 0,_,_=>False
 | m+1,c,v=>v.pp=0\/(v.pp≠0/\(c.xE no v).1.2≠0)\/(v.pp≠0/\(c.xE no v).1.2=0/\Ca.ends no m (c.xE no v).2 (c.xE no v).1.1)
section
variable {h0:AH} {p no nv n7:Nat} {n:ZD}
abbrev WkQ (h0:AH) (p:Nat) (n:ZD) (nv:Nat) (y:(Int × List Vn) × Ca):yO->AH->Prop:=xj TW h0 (.int .i64 y.1.1) λh'=>gF h' p n y.2/\∃ sv,h'.m nv=some (.cells true (.one 65) sv)/\j0 78 h0 h' sv (y.1.2.map uC)
theorem z0d (vk:no<65536) (l0:h0.next<=nv) (l7:h0.next<=n7) (y:(Int × List Vn) × Ca):∀ (m k:Nat) (h:AH) (c:Ca) (v:Dt) (l:List Vn) (sv:V),m<k->c.ends no m v->c.deep m->v.ok->zb TW h0 h->vx h0->gF h p n c->h.m n7=some (.cells true (.one 163) v.v)->n7<h.next->nv<h.next ->
 h.m nv=some (.cells true (.one 65) sv)->j0 78 h0 h sv (l.map uC)->l.length+m<=1000000->Ca.dB no m c v l=y ->
 IN (WkQ h0 p n nv y) k (j4 p) (.int .u16 no) (.fn (.func 115) [] [ouP nv]) (.ptr (some ⟨n7,.one 163,[]⟩)) (.int .i64 0) h
 | m,0,h,c,v,l,sv,hk,_,_,_,_,_,_,_,_,_,_,_,_,_=>by omega
 | 0,k+1,h,c,v,l,sv,hk,he,_,_,_,_,_,_,_,_,_,_,_,_=>he.elim
 | m+1,k+1,h,c,v,l,sv,hk,he,dp,Tl,q,own,ca,f7,ln7,lnv,fv,b,hl,hy=>by
  obtain ⟨d1,d2,d3,d4⟩:=dp;rw [RG];refine xn rfl ?_;apply sE;refine zl f7 K_ (w:=v.v) rfl ?_;show rY Pg 115 ([]++([v.v]++[ouP nv])) h _;unfold rY;rw [show vZ Pg 115=true by kernel_rfl];refine xN (zaE Tl l0 lnv fv b O_) λh1 q1 ⟨sv1,y1,fv1,b1⟩=>?_;have n1:=q1.next;have dw:zb TW h0 h1:=y1 _ q;have f7a:=q1.at f7 ln7 rfl;have ca1:gF h1 p n c:=by obtain ⟨lv,kb⟩:=ca;exact ⟨lv,kb.zA q1 rfl⟩
  refine sm (R1 ..) ?_;apply wc;refine sm (GJ ..) ?_;apply xz;refine sm (G2 ..) ?_;refine zx K_ ?_;refine zx K_ ?_;refine zl f7a K_ (w:=.int .u16 v.pp) rfl ?_;unfold Ca.dB at hy;by_cases hp:v.pp=0
  ·rw [if_pos hp] at hy;subst hy;refine xn O_ ?_;apply xz;exact ⟨rfl,dw,ca1,sv1,fv1,b1⟩
  ·rw [if_neg hp] at hy;refine yB O_ ?_;apply yZ;refine sm (Du ..) ?_;refine zl f7a K_ (w:=v.v) rfl ?_;obtain ⟨dp2,z5e⟩:=d4 no v Tl;refine xN (L8 ca1 (dw.own own) vk Tl d1.dR) λh2 q2 Vi=>?_;have n2:=q2.next;have po:zb TW h0 h2:=dw.trans (q2.sub rfl);have f7b:=q2.at f7a O_ rfl;have fv2:=q2.at fv1 O_ rfl;have b2:=b1.zA q2 rfl;have J6:((c.xE no v).1.2≠0)\/((c.xE no v).1.2=0/\Ca.ends no m (c.xE no v).2 (c.xE no v).1.1):=by
    rcases he with r | r | r
    ·exact absurd r hp
    ·exact .inl r.2
    ·exact .inr r.2
   generalize c.xE no v=st at *;obtain ⟨⟨w,e⟩,c2⟩:=st;simp only at dp2 z5e Vi J6 hy ⊢;apply wj;apply wl;refine zq (zM (p:=[]) f7b K_ rfl (tL z5e) rfl) λh3 u3=>?_;have n3:=u3.next;have q3:zb [(0,163,0)] h2 h3:=zb.vP u3 f7b rfl rfl;have ez:zb TW h0 h3:=po.ya u3 l7;have ca3:gF h3 p n c2:=by obtain ⟨lv,kb⟩:=Vi;exact ⟨lv,kb.zA q3 rfl⟩
   have fv3:=q3.at fv2 O_ rfl;have b3:=b2.zA q3 rfl;rcases J6 with r | ⟨r1,r2⟩
   ·rw [if_neg r] at hy;subst hy;obtain ⟨k',rfl⟩:∃ k',k=k'+1:=⟨k-1,O_⟩
    refine z7.of ?_;rw [RG];refine yB r ?_;apply jo;refine sm (R1 ..) ?_;apply yi;refine sm (GJ ..) ?_;apply yZ;refine sm (Da ..) ?_;exact ⟨rfl,ez,ca3,sv1,fv3,b3⟩
   ·rw [if_pos r1] at hy;rw [r1];exact z7.of (z0d vk l0 l7 y m k h3 c2 w (l++[v.vn]) sv1 O_ r2 dp2 z5e ez own ca3 u3.at_ O_ O_ fv3 b3 (by simp;omega) hy)
end
def Ca.sP (c:Ca) (no m:Nat):(Int × List Vn) × Ca :=
 if (c.yg no).1.2=0 then Ca.dB no m (c.yg no).2 (c.yg no).1.1 [] else (((c.yg no).1.2,[]),(c.yg no).2)
def VeQ (h0:AH) (p:Nat) (n:ZD) (y:(Int × List Vn) × Ca):yO->AH->Prop:=λe h'=>∃ sv,e=.ret (.yX [sv,.int .i64 y.1.1])/\zb TW h0 h'/\gF h' p n y.2/\(y.1.1=0->j0 78 h0 h' sv (y.1.2.map uC))
theorem z64 {h:AH} {p no m:Nat} {n:ZD} {c:Ca} (k:gF h p n c) (own:vx h) (vk:no<65536) (dp:c.deep (m+1)) (hm:m<=1000000) (he:(c.yg no).1.2=0->Ca.ends no m (c.yg no).2 (c.yg no).1.1) :
 z0q 70 [j4 p,.int .u16 no] h (VeQ h p n (c.sP no m)):=by
 obtain ⟨d1,d2,d3,d4⟩:=dp;obtain ⟨d5,kN⟩:=d3 no vk;refine C70 _ _ _ _ ?_;refine zq (yA (z:=.y8 none 0) K_ K_) λh1 u1=>?_;have n1:=u1.next;have q1:zb [] h h1:=zb.new u1;have fo:=u1.at_;have k1:gF h1 p n c:=by obtain ⟨lv,kb⟩:=k;exact ⟨lv,kb.zA q1 rfl⟩
 have wk:z0q 114 [j4 p,.int .u16 no,.fn (.func 115) [] [ouP h.next]] h1 (WkQ h p n h.next (c.sP no m)):=by
  refine C114 _ _ _ _ _ ?_;refine xN (cD k1 (q1.own own) vk d1.dR) λh2 q2 Vi=>?_;have n2:=q2.next;have po:zb TW h h2:=(q1.sub rfl).trans (q2.sub rfl);have fo2:=q2.at fo O_ rfl;unfold Ca.sP;generalize c.yg no=nw at *;obtain ⟨⟨d,e⟩,c2⟩:=nw;simp only at d5 kN Vi he ⊢;apply wj;apply wl;refine zq (yA PD (tL kW)) λh3 u3=>?_;have n3:=u3.next;have q3:zb [] h2 h3:=zb.new u3;refine zq (zM (p:=[]) u3.at_ K_ rfl (tL kN) rfl) λh4 u4=>?_;have n4:=u4.next;have q4:zb [] h2 h4:=q3.ya u4 (Nat.le_refl _);have mE:zb TW h h4:=po.trans (q4.sub rfl);have ca4:gF h4 p n c2:=by obtain ⟨lv,kb⟩:=Vi;exact ⟨lv,kb.zA q4 rfl⟩
  have fo4:=q4.at fo2 O_ rfl;by_cases h0:e=0
  ·rw [if_pos h0];subst h0;refine ⟨m+1,z7.of ?_⟩;exact z0d vk (Nat.le_refl _) O_ _ m (m+1) h4 c2 d [] (.y8 none 0) O_ (he rfl) d5 kN mE own ca4 u4.at_ O_ O_ fo4 (.inl ⟨rfl,rfl⟩) (by simp;exact hm) rfl
  ·rw [if_neg h0];refine ⟨1,z7.of ?_⟩;rw [RG];refine yB h0 ?_;apply jo;refine sm (R1 ..) ?_;apply yi;refine sm (GJ ..) ?_;apply yZ;refine sm (Da ..) ?_;exact ⟨rfl,mE,ca4,_,fo4,.inl ⟨rfl,rfl⟩⟩
 refine wk.mono λe h2 q=>?_;obtain ⟨rfl,q2,Vi,sv,fo2,b2⟩:=q;dsimp only [zS];by_cases h0:(c.sP no m).1.1=0
 ·refine yx h0 ?_;apply yZ;refine sm (GP ..) ?_;refine zl fo2 K_ (w:=sv) rfl ?_;exact ⟨sv,by rw [h0],q2,Vi,λ_=>b2⟩
 ·refine xe h0 ?_;apply xz;exact ⟨_,rfl,q2,Vi,λe=>absurd e h0⟩
structure WkS (c:Ca) (v:Dt) (l:List Dt) (out:List Vn) (y:(Int × List Vn) × Ca):Prop where
 sv:Sv y.2
 asw:c.as y.2
 rest:y.2.rest
 ub:∀ k,c.ub k->y.2.ub (k+l.length)
 uh:c.dk.uh y.1.1
 all:y.1.1=0->y.1.2=out++v.vn :: l.map Dt.vn
 z5f:∀ d∈y.1.2,d∈out\/d.body.length=64
 len:y.1.2.length<=out.length+l.length+1
theorem VB {ro:Ro} {no:Nat}:∀ (l:List Dt) (ps:List (Nat × Nat)) (v:Dt) (c:Ca) (m:Nat) (out:List Vn),AB ro no v l ps->Cm c ro->v.ok->l.length<m->c.ends no m v/\WkS c v l out (Ca.dB no m c v out)
 | l,ps,v,c,0,out,_,_,_,hm=>by omega
 | [],ps,v,c,m+1,out,ch,cm,Tl,hm=>by
  have UW:v.pp=0:=by
   cases ps with
   | nil=>exact ch
   | cons x q=>exact ch.elim
  have e:Ca.dB no (m+1) c v out=((0,out++[v.vn]),c):=by unfold Ca.dB;rw [if_pos UW]
  rw [e];refine ⟨.inl UW,cm.sv,Ca.as.refl c,cm.rest,λk u=>u,Dk.oD _,λ_=>rfl,λd hd=>?_,by show (out++[v.vn]).length<=_;simp⟩;rcases List.mem_append.1 hd with q | q
  ·exact .inl q
  ·rw [List.mem_singleton] at q;subst q;exact .inr Tl.body
 | w :: l,[],v,c,m+1,out,ch,_,_,_=>ch.elim
 | w :: l,x :: ps,v,c,m+1,out,ch,cm,Tl,hm=>by
  obtain ⟨h1,h2,h3,⟨o,h4,h5,h6,h7,h8⟩,h9⟩:=ch;have UW:v.pp≠0:=O_;have JY:x.1<c.zU:=by have:=cm.len;omega
  have wok:w.ok:=by
   obtain ⟨i1,i2⟩:=jw.1 (show w5 (ro.xu x.1).zt x.2=some o from h4);obtain ⟨o1,o2,o3,o4⟩:=(PQ cm JY).zt o (List.mem_of_getElem? i1);rw [h8];refine ⟨by show 0<_;omega,o2,o3,?_⟩;have:=congrArg Prod.snd h7;show w.body.length=64;rw [<- show (wD v.body o.dl).2=w.body from this];exact oA _ _ _ _ _ Tl.body
  obtain ⟨t1,t2,t3,t4,t5⟩:=iT cm.sv cm.rest (no:=no) h1 JY;have tub:∀ k,c.ub k->(c.xE no v).2.ub (k+1):=λk u=>az cm.sv cm.rest u h1 JY;have z5d:(c.yh (true,x.1)).1.2=0->(c.xE no v).1=(w,0):=λq=>by
   obtain ⟨U,U1,U2⟩:=t5 q;rw [cm.room x.1 JY] at U1;cases U1;rw [U2];unfold o9;rw [h2,show w5 (ro.xu x.1).zt x.2=some o from h4];simp only;rw [if_neg (by rw [h5];simp;exact h6),h7,if_pos rfl,<- h8]
  unfold Ca.dB Ca.ends;rw [if_neg UW];by_cases hfe:(c.yh (true,x.1)).1.2=0
  ·have e1:=z5d hfe;rw [e1];rw [if_pos rfl];obtain ⟨r1,r2⟩:=VB l ps w (c.xE no v).2 m (out++[v.vn]) h9 (cm.as t2 t1 t3) wok (by simpa using hm);obtain ⟨s1,s2,s3,s4,s5,s6,s7,s8⟩:=r2;refine ⟨.inr (.inr ⟨UW,rfl,r1⟩),s1,t2.trans s2,s3,λk u=>(s4 _ (tub k u)).mono (by simp;omega),t2.dk.uh s5,λq=>?_,λd hd=>?_,?_⟩
   ·rw [s6 q];simp
   ·rcases s7 d hd with q | q
    ·rcases List.mem_append.1 q with q | q
     ·exact .inl q
     ·rw [List.mem_singleton] at q;subst q;exact .inr Tl.body
    ·exact .inr q
   ·have:=s8;simp at this ⊢;omega
  ·obtain ⟨s1,s2⟩:=t4 hfe;rw [if_neg s2];refine ⟨.inr (.inl ⟨UW,s2⟩),t1,t2,t3,λk u=>(tub k u).mono S_,s1,λq=>absurd q s2,λd hd=>?_,by show (out++[v.vn]).length<=_;simp⟩;rcases List.mem_append.1 hd with q | q
   ·exact .inl q
   ·rw [List.mem_singleton] at q;subst q;exact .inr Tl.body
structure VerS (c:Ca) (ro:Ro) (vs:eS) (ps:eY) (no:Nat) (y:(Int × List Vn) × Ca):Prop where
 vv:Vs y.2 ro vs ps
 asw:c.as y.2
 ub:∀ k,c.ub k->y.2.ub (k+1+(vs no).length)
 uh:c.dk.uh y.1.1
 all:y.1.1=0->y.1.2=(c.data no).vn :: (vs no).map Dt.vn
 z5f:∀ d∈y.1.2,d.body.length=64
 len:y.1.2.length<=(vs no).length+1
theorem L0 {c:Ca} {ro:Ro} {vs:eS} {ps:eY} (m:Vs c ro vs ps) {no k:Nat} (hn:no<c.zH) (hk:(vs no).length<k):((c.yg no).1.2=0->Ca.ends no k (c.yg no).2 (c.yg no).1.1)/\VerS c ro vs ps no (c.sP no k):=by
 obtain ⟨n1,n2,n3,n4,n5,n6⟩:=qZ m.cm.sv m.cm.rest hn;have NP:∀ k,c.ub k->(c.yg no).2.ub (k+1):=λk u=>nA m.cm.sv m.cm.rest u hn;have m2:=m.as n2 n1 n3;unfold Ca.sP;by_cases he:(c.yg no).1.2=0
 ·rw [if_pos he];have hd:=n5 he;have dd:(c.yg no).2.data no=(c.yg no).1.1:=by
   unfold Ca.data;rw [n2.pg (false,no) (fK.2 hn),hd]
  have ch:=m2.chain no (by rw [n2.zH];exact hn);rw [dd] at ch;obtain ⟨r1,s1,s2,s3,s4,s5,s6,s7,s8⟩:=VB (vs no) (ps no) (c.yg no).1.1 (c.yg no).2 k [] ch m2.cm n6 hk;refine ⟨λ_=>r1,m2.as s2 s1 s3,n2.trans s2,λj u=>s4 _ (NP j u),n2.dk.uh s5,λq=>?_,λd BT=>?_,by simpa using s8⟩
  ·rw [s6 q,List.nil_append];rw [hd];rfl
  ·rcases s7 d BT with q | q
   ·exact (nomatch q)
   ·exact q
 ·rw [if_neg he];exact ⟨λq=>absurd q he,m2,n2,λj u=>(NP j u).mono O_,n4,λq=>absurd q he,(λd hd=>nomatch hd),by show 0<=_;omega⟩
open Go.Proofs.YtdbgifdfdhhjcaaGreat.wT (Rc qO)
def Ro.new (n:Nat):Ro:=⟨List.replicate n Un.z,0⟩
section
variable {h:AH} {p:Nat} {d:Dk}
theorem z1O {n:Nat} (h1:1<=n) (h2:n<=32) (h:AH):∃ h',z0q 100 [.int .i64 n] h (zO (OY (h.next+1)) h')/\zb [] h h'/\h'.next=h.next+2/\jy h' (h.next+1) h.next (Ro.new n):=by
 have hu:ul Pg 159=some (.slice 50):=K_;have hz:xk Pg 50=some (.agg [.int .u64 0,.y8 none 0]):=K_;have hb:1<=Pg.bytesOf 50/\Pg.bytesOf 50<=1000:=E_;have hc:Pg.cellsOf 50≠0:=E_;have e:((n:Nat):Int).toNat=n:=O_;have m1:wU Pg h 159 (.int .i64 n) (.int .i64 n)=some (.y8 (some (⟨h.next,.row 50,[]⟩,0)) n,h.make (.cells true (.row 50) (.agg (List.replicate n (.agg [.int .u64 0,.y8 none 0]))))):=by
  unfold wU;simp only [hu,hz];rw [if_pos ⟨trivial,O_,hb.1,Int.le_trans (show ((Pg.bytesOf 50:Nat):Int)*(n:Int)<=1000*32 by have:=Nat.mul_le_mul hb.2 h2;exact_mod_cast this) D_,hc⟩,e]
 have u1:=vJ h (.cells true (.row 50) (.agg (List.replicate n (.agg [.int .u64 0,.y8 none 0]))));have q1:zb [] h (h.make (.cells true (.row 50) (.agg (List.replicate n (.agg [.int .u64 0,.y8 none 0]))))):=zb.new u1;have nx:(h.make (.cells true (.row 50) (.agg (List.replicate n (.agg [.int .u64 0,.y8 none 0]))))).next=h.next+1:=rfl;generalize h.make (.cells true (.row 50) (.agg (List.replicate n (.agg [.int .u64 0,.y8 none 0]))))=nF at m1 u1 q1 nx;have u2:=vJ nF (.cells true (.one 161) (.agg [.y8 (some (⟨h.next,.row 50,[]⟩,0)) n,.int .i64 0]));have q2:zb [] nF (nF.make (.cells true (.one 161) (.agg [.y8 (some (⟨h.next,.row 50,[]⟩,0)) n,.int .i64 0]))):=zb.new u2;refine ⟨nF.make (.cells true (.one 161) (.agg [.y8 (some (⟨h.next,.row 50,[]⟩,0)) n,.int .i64 0])),?_,q1.trans q2,by rw [u2.next,nx],?_⟩
 case refine_2 =>
  have z:Un.z.zt=[]:=rfl;refine ⟨?_,⟨List.replicate n (vE 0 (.y8 none 0)),by simp [Ro.new],q2.at u1.at_ (by rw [nx];omega) rfl,λi u hi=>?_⟩,⟨by rw [u2.next,nx];omega,by rw [u2.next,nx];omega⟩,by simp [Ro.new];omega,by simp [Ro.new];omega⟩
  ·have f:=u2.at_;rw [nx] at f;rw [f];simp [roV,Ro.new]
  ·have hin:i<n:=by have:=(List.getElem?_eq_some_iff.1 hi).1;simpa [Ro.new] using this
   have hu:u=Un.z:=by
    have:=List.mem_of_getElem? hi;exact (List.mem_replicate.1 this).2
   refine ⟨vE 0 (.y8 none 0),by rw [List.getElem?_replicate,if_pos hin],?_⟩;rw [hu];exact sZ.zero _
 refine C100 _ _ _ ?_;refine yD O_ ?_;apply xc;refine xA O_ ?_;refine sm (z2h ..) ?_;apply yi;refine sm (z4G ..) ?_;apply yZ;refine sm (z4y ..) ?_;refine ze m1 ?_;refine z6 (show zD Pg 161 [(0,.y8 (some (⟨h.next,.row 50,[]⟩,0)) n)]=some (.agg [.y8 (some (⟨h.next,.row 50,[]⟩,0)) n,.int .i64 0]) by kernel_rfl) ?_;refine ze (pH (show zf Pg (.agg [.y8 (some (⟨h.next,.row 50,[]⟩,0)) n,.int .i64 0]) 161=true by kernel_rfl)) ?_;exact ⟨by rw [nx],rfl⟩
theorem z2c (k:qf h p d) (own:vx h) (f:ZO) {fr ep num fin:Nat} (h1:4<=fr/\fr<=32) (h2:1<=f.zH/\f.zH<=16) (h3:1<=f.zU/\f.zU<=32) (h4:1<=f.log) (h5:2+f.zH+f.zU+f.log<=d.n) (gy:f.z0Y<4294967296) (hep:ep<4294967296) (Jg:num<4294967296) (gc:fin<18446744073709551616) :
 z0q 46 [pU p,cfV f,.int .i64 fr,.int .u32 ep,.y8 none 0,.int .u32 num,.int .u64 fin] h (fE [] h fD λpb h'=>∃ (n:cp) (r:Nat),n.c.d=p/\BsA h' pb n f (Ca.new d (Lg.new p (2+f.zH+f.zU) f.log ep num fin) fr f.zH f.zU)/\jy h' n.pr r (Ro.new f.zU)):=by
 have ok:=k.ok.n;obtain ⟨fp,fu,fl,fm⟩:=f;simp only at h2 h3 h4 h5 gy;refine C46 _ _ _ _ _ _ _ _ _ ?_;refine zq (yl (show zf Pg (cfV ⟨fp,fu,fl,fm⟩) 116=true from K_)) λnF u1=>?_;have n1:=u1.next;have q1:zb [] h nF:=zb.new u1;have f1:nF.m h.next=some (.cells true (.one 116) (.agg [.int .i64 fp,.int .i64 fu,.int .i64 fl,.int .u32 fm])):=u1.at_;refine zx K_ ?_;refine zl f1 K_ rfl ?_;refine zE O_ O_ ?_;refine zx K_ ?_;refine zl f1 K_ rfl ?_;refine zE O_ O_ ?_;refine zx K_ ?_;refine zl f1 K_ rfl ?_;rw [show (2:Int)+fp+fu=((2+fp+fu:Nat):Int) by omega];refine Uh (z9U (k.zA q1 rfl rfl rfl rfl) O_ O_ hep Jg gc) λql h2' l2 q2 kl=>?_;have n2:=q2.next;have g1:=q2.at f1 O_ rfl;refine zx K_ ?_;refine zl g1 K_ rfl ?_;refine zx K_ ?_;refine zl g1 K_ rfl ?_;refine Uh (zc1 (k.zA (q1.trans q2) rfl rfl rfl rfl) kl rfl ((q1.trans q2).own own) h1 h2 h3 O_) λpc Y4 l3 q3 ⟨nc,e1,e2,kc⟩=>?_;have n3:=q3.next;have g3:=q3.at g1 O_ rfl;refine z6 (show zi Pg .eql 38 (.ptr (some _)) (.ptr none) true=some (.bool false) from K_) ?_;apply yZ;refine sm (WP ..) ?_;refine ym K_ ?_;refine zY g3 K_ (w:=.int .i64 fu) rfl ?_;obtain ⟨h4',c4,q4,n4,rb4⟩:=z1O h3.1 h3.2 Y4;refine ⟨_,h4',c4,?_⟩;have g4:=q4.at g3 O_ rfl;refine zY g4 K_ (w:=cfV ⟨fp,fu,fl,fm⟩) rfl ?_;refine ox g3 K_ (w:=cfV ⟨fp,fu,fl,fm⟩) rfl ?_;subst e1 e2;let n:cp:=⟨nc,pc,Y4.next+1⟩
 refine zg (show zD Pg 127 [(0,pU nc.d),(1,fM nc.l),(2,j4 pc),(3,OY (Y4.next+1)),(4,cfV ⟨fp,fu,fl,fm⟩)]=some (bsV n ⟨fp,fu,fl,fm⟩) from K_) ?_;refine zq (yl (show zf Pg (bsV n ⟨fp,fu,fl,fm⟩) 127=true from K_)) λh5' u5=>?_;have n5:=u5.next;have q5:zb [] h4' h5':=zb.new u5;refine ⟨h4'.next,rfl,O_,q1.trans (q2.trans (q3.trans (q4.trans q5))),n,Y4.next,rfl,⟨u5.at_,kc.zA (q4.trans q5) rfl,O_⟩,rb4.zA q5 rfl⟩
end
section
set_option maxRecDepth 100000
noncomputable section
variable (Q:yO->AH->Prop) (ds:List AD) (n n1 n2:Nat) (x0 x1 x2 x6 x7 x8 x9 x10 x11 x12 x13 x14 x15 x16 x19 x21 x24 x25 x27 x28 x30 x31 x38 x62 x63:V) (a0 a1 a2:V) (h:AH)
def B4:=bd Tryz.f4
def R4:List ResultVar:=[.tmp 6]
abbrev N4:=65
def K4:KT:=(sQ lF (sQ lF (sQ lF (jN (sQ lF (.two (sQ lF lF [6]) lF) [2,7,9,28]) (sQ lF (jN (sQ lF (.two (sQ lF lF [6]) lF) [9,10,37]) (sQ lF (jN (sQ lF (.one (.loop (sQ lF (jN (.two lF lF) (jN (.one (sQ lF (jN (sQ lF (.two (sQ lF lF [6]) lF) [9,10,12,13,38,48]) lF [9,10,12,13,38]) [9,10,12,13,38])) lF [9,10,12,38]) [9,10,12,38]) [9,10,12,38,39]) [9,10,12,38])) [9,10,12,38]) (jN (.rm [[62,63]]) lF [6]) [9,12]) [9,10,12]) [9,10]) [9,10,11]) [2,7,9]) [2,7,9]) [1,2,7]) [0,1,2])
def W4 (p l:List Nat) (e:zJ):Prop:=xG Pg N4 B4 K4 p l (zn Pg R4 Q) e h
def z9n:Prop:=W4 Q h [1,1,1,1,1,1,1,0,1,0,0,1,1,1] [n] [(9,x9),(10,x10),(12,x12),(38,x38)]
def H5:Prop:=W4 Q h [1,1,1,1,1,1,1,0,1,0,0,1,1,0,0,1,1] [n] [(9,x9),(10,x10),(12,x12),(13,x13),(38,x38)]
def z8h:Prop:=W4 Q h [1,1,1,1,1,1,1,0,1,0,0,1,1] [n] [(9,x9),(10,x10),(12,x12),(38,x38)]
def z8I:Prop:=W4 Q h [1,1,1,1,1,1,1,1,1] [] [(6,x6)]
def z3N:Prop:=yu Pg N4 B4 K4 [1,1,1,1,1,1,1,1,0] 2 1 [] (zn Pg R4 Q) [(62,x62),(63,x63)] h
def Ds:Prop:=W4 Q h [1,1,1,1,1,1,1,1] [] [(9,x9),(12,x12)]
def IW:Prop:=xX Pg N4 B4 K4 [1,1,1,1,1,1,1,0,1,0] [] n (zn Pg R4 Q) [(9,x9),(10,x10),(12,x12),(38,x38)] h
def z7v:Prop:=W4 Q h [1,1,1,1,1,1] [] [(9,x9),(10,x10)]
def z1c:Prop:=W4 Q h [1,1,1,1] [] [(2,x2),(7,x7),(9,x9)]
theorem IS:z9n Q n x9 x10 x12 x38 h=(
 z0 (z03 (z0s .add 3 x38 (V.int .i64 1) true) h) λb c =>
 z7 (IW Q n x9 x10 x12 b c)):=K_
theorem Ee:H5 Q n x9 x10 x12 x13 x38 h=(
 z0 (z03 (z0w 66 x10 x13) h) λb c =>
 z0 (z0o c 65 b) λd e =>
 z0 (z0u e .len [65] [d]) λf g =>
 z0 (z03 (z0s .sub 3 f (V.int .i64 1) true) g) λi j =>
 z0 (z03 (z0s .add 3 x12 i false) j) λk l =>
 z7 (z9n Q n x9 x10 k x38 l)):=K_
theorem Fm:z8h Q n x9 x10 x12 x38 h=(
 z0 (z03 (z0F h 3 41 x38) h) λb c =>
 z0 (z03 (z0w 66 x10 x38) c) λd e =>
 z0 (z0o e 65 d) λf g =>
 z0q 25 [x9,b,f] g (zS (λi j =>
 z0 (z03 (qd .not i) j) λk l =>
 zP k (
 Q (.ret (V.bool false)) l) (
 z7 (H5 Q n x9 x10 x12 x38 x38 l))) λv h=>Q (.panic v) h)):=K_
theorem EE:z8I Q x6 h=(
 Q (.ret x6) h):=K_
theorem DS:z3N Q x62 x63 h=(
 z0 (yc x62 x63 (V.bool false) h) λb c =>
 z7 (z8I Q b c)):=K_
theorem D7:Ds Q x9 x12 h=(
 z0q 20 [x9] h (zS (λb c =>
 z0q 26 [b] c (zS (λd e =>
 z0 (z03 (z0s .eql 3 d x12 false) e) λf g =>
 vp f true (
 z0q 27 [] g (zS (λi j =>
 z7 (z3N Q f i j)) λv h=>Q (.panic v) h)) (z7 (z3N Q f yw g))) λv h=>Q (.panic v) h)) λv h=>Q (.panic v) h)):=K_
theorem Qm:IW Q (n+1) x9 x10 x12 x38 h=(
 z0 (z03 (z0s .lss 3 x38 (V.int .i64 3) true) h) λb c =>
 zP b (
 z7 (z8h Q n x9 x10 x12 x38 c)) (
 z7 (Ds Q x9 x12 c))):=K_
theorem En:z7v Q x9 x10 h=(
 ∃ n,z7 (IW Q n x9 x10 (V.int .i64 0) (V.int .i64 0) h)):=K_
theorem FB:z1c Q x2 x7 x9 h=(
 z0q 24 [x9,x2,x7] h (zS (λb c =>
 z0 (z03 (zm b 0) c) λd e =>
 z0 (z03 (zm b 1) e) λf g =>
 z0 (z0D g 66) λi j =>
 z0 (z0t j 66 i d) λ_ k =>
 z0 (z03 (qd .not f) k) λl m =>
 zP l (
 Q (.ret (V.bool false)) m) (
 z7 (z7v Q x9 i m))) λv h=>Q (.panic v) h)):=K_
theorem C4 (c :
 z0 (z03 (z0s .rem 5 a0 (V.int .u8 6) true) h) λb c =>
 z0 (z03 (z0F c 5 3 b) c) λd e =>
 z0 (z03 (z0s .add 3 (V.int .i64 1) d true) e) λf g =>
 z0 (z03 (z0s .rem 5 a1 (V.int .u8 5) true) g) λi j =>
 z0 (z03 (z0F j 5 3 i) j) λk l =>
 z0 (z03 (z0s .add 3 (V.int .i64 4) k true) l) λm o =>
 z0q 23 [f,m] o (zS (λp q =>
 z0 (z03 (zm p 0) q) λr s =>
 z0 (z03 (zm p 1) s) λt u =>
 z0 (z03 (z0s .eql 24 t (V.ptr none) true) u) λw y =>
 zP w (
 Q (.ret (V.bool false)) y) (
 z7 (z1c Q a2 f t y))) λv h=>Q (.panic v) h)):z0q 4 [a0,a1,a2] h Q :=
 mkC Tryz.func4 B4 N4 K4 R4 c
def B23:=bd Tryz.f23
def R23:List ResultVar:=[.tmp 4,.tmp 5]
abbrev N23:=47
def K23:KT:=(sQ lF (sQ lF (jN (sQ lF (.two (sQ lF lF [4,5]) lF) [0,1,6,14]) (jN (sQ lF (.one (.loop (jN (sQ lF (.two lF lF) [0,1,6,7,18]) (jN (.one (sQ lF (jN (sQ lF (.two lF lF) [0,1,6,7,8,25]) (sQ lF (.two (sQ lF lF [4,5]) lF) [0,1,6,7,37]) [0,1,6,7,8]) [0,1,6,7,8])) lF [0,1,6,7]) [0,1,6,7]) [0,1,6,7])) [0,1,6,7]) (jN (sQ lF (.two (sQ lF lF [4,5]) lF) [0,1,6,40]) (sQ lF lF [4,5]) [0,1,6]) [0,1,6]) [0,1,6]) [0,1,6]) [0,1])
def W23 (p l:List Nat) (e:zJ):Prop:=xG Pg N23 B23 K23 p l (zn Pg R23 Q) e h
def zbX:Prop:=W23 Q h [1,1,1,0,1,0,0,1,1] [n] [(0,x0),(1,x1),(6,x6),(7,x7)]
def zc2:Prop:=W23 Q h [1,1,1,0,1,0,0,1,0,0,1,1] [n] [(0,x0),(1,x1),(6,x6),(7,x7),(8,x8)]
def z6Z:Prop:=W23 Q h [1,1,1,0,1,0,0,1] [n] [(0,x0),(1,x1),(6,x6),(7,x7)]
def zbV:Prop:=W23 Q h [1,1,1,1,1] [] [(0,x0),(1,x1),(6,x6)]
def z8t:Prop:=W23 Q h [1,1,1,1] [] [(0,x0),(1,x1),(6,x6)]
def Ln:Prop:=xX Pg N23 B23 K23 [1,1,1,0,1,0] [] n (zn Pg R23 Q) [(0,x0),(1,x1),(6,x6),(7,x7)] h
def z63:Prop:=W23 Q h [1,1,1] [] [(0,x0),(1,x1),(6,x6)]
theorem CA:zbX Q n x0 x1 x6 x7 h=(
 z0 (z03 (z0s .add 3 x7 (V.int .i64 1) true) h) λb c =>
 z7 (Ln Q n x0 x1 x6 b c)):=K_
theorem RV:zc2 Q n x0 x1 x6 x7 x8 h=(
 z0 (z03 (z0s .add 3 (V.int .i64 2) x7 true) h) λb c =>
 z0 (z0o c 43 x8) λd e =>
 z0q 44 [d] e (zS (λf g =>
 z0q 43 [(V.int .u64 0),f] g (zS (λi j =>
 z0q 42 [x6,b,i] j (zS (λk l =>
 z0 (z03 (z0s .neq 36 k (V.int .i64 0) true) l) λm o =>
 zP m (
 Q (.ret (V.yX [(V.ptr none),(V.ptr none)])) o) (
 z7 (zbX Q n x0 x1 x6 x7 o))) λv h=>Q (.panic v) h)) λv h=>Q (.panic v) h)) λv h=>Q (.panic v) h)):=K_
theorem G1:z6Z Q n x0 x1 x6 x7 h=(
 z0 (z03 (z0F h 3 41 x7) h) λb c =>
 z0 (z03 (z0y 43 [(1,b)]) c) λd e =>
 z0 (z0D e 43) λf g =>
 z0 (z0t g 43 f d) λ_ i =>
 z0 (z03 (z0s .geq 3 x7 (V.int .i64 3) true) i) λj k =>
 zP j (
 z0 (z03 (z0s .sub 3 x7 (V.int .i64 3) true) k) λl m =>
 z0 (z03 (z0F m 3 41 l) m) λo p =>
 z0 (z03 (z0y 43 [(0,(V.bool true)),(1,o)]) p) λq r =>
 z0 (z0t r 43 f q) λ_ s =>
 z7 (zc2 Q n x0 x1 x6 x7 f s)) (
 z7 (zc2 Q n x0 x1 x6 x7 f k))):=K_
theorem Cp:zbV Q x0 x1 x6 h=(
 z0 (z03 (z0y 116 [(0,(V.int .i64 3)),(1,x0),(2,(V.int .i64 200)),(3,(V.int .u32 1073741824))]) h) λb c =>
 z0q 46 [x6,b,x1,(V.int .u32 1),(V.y8 none 0),(V.int .u32 0),(V.int .u64 1)] c (zS (λd e =>
 Q (.ret (V.yX [x6,d])) e) λv h=>Q (.panic v) h)):=K_
theorem HX:z8t Q x0 x1 x6 h=(
 z0q 45 [x6] h (zS (λb c =>
 z0 (z03 (z0s .neq 36 b (V.int .i64 0) true) c) λd e =>
 zP d (
 Q (.ret (V.yX [(V.ptr none),(V.ptr none)])) e) (
 z7 (zbV Q x0 x1 x6 e))) λv h=>Q (.panic v) h)):=K_
theorem PI:Ln Q (n+1) x0 x1 x6 x7 h=(
 z0 (z03 (z0s .add 3 (V.int .i64 3) x0 true) h) λb c =>
 z0 (z03 (z0s .lss 3 x7 b false) c) λd e =>
 zP d (
 z7 (z6Z Q n x0 x1 x6 x7 e)) (
 z7 (z8t Q x0 x1 x6 e))):=K_
theorem P5:z63 Q x0 x1 x6 h=(
 ∃ n,z7 (Ln Q n x0 x1 x6 (V.int .i64 0) h)):=K_
theorem C23 (c :
 z0 (z03 (z0s .add 3 (V.int .i64 5) a0 true) h) λb c =>
 z0 (z03 (z0s .add 3 b (V.int .i64 200) true) c) λd e =>
 z0q 41 [d] e (zS (λf g =>
 z0 (z03 (z0s .eql 23 f (V.ptr none) true) g) λi j =>
 zP i (
 Q (.ret (V.yX [(V.ptr none),(V.ptr none)])) j) (
 z7 (z63 Q a0 a1 f j))) λv h=>Q (.panic v) h)):z0q 23 [a0,a1] h Q :=
 mkC Tryz.func23 B23 N23 K23 R23 c
def B24:=bd Tryz.f24
def R24:List ResultVar:=[.cell 6 66,.tmp 7]
abbrev N24:=108
def K24:KT:=(sQ lF (sQ lF (jN (sQ lF (.one (.loop (sQ lF (jN (.two lF lF) (jN (.one (sQ lF lF [0,1,6,8,9,16])) lF [0,1,6,8,16]) [0,1,6,8,16]) [0,1,6,8,16,17]) [0,1,6,8,16])) [0,1,6,8,16]) (jN (sQ lF (.one (.loop (jN (jN (.rm [[0,1,6,8,10,28,30]]) (.two lF lF) [0,1,6,8,10,31]) (jN (.one (sQ lF (sQ lF (sQ lF (jN (sQ lF (.two (sQ lF (jN (sQ lF (.two (jN (sQ lF (.two (sQ lF lF [6,7]) lF) [0,1,6,8,10,54]) lF [0,1,6,8,10]) lF) [0,1,6,8,10,12,13,14,52]) (jN (sQ lF (.two lF (sQ lF (.two (sQ lF lF [6,7]) lF) [0,1,6,8,10,65])) [0,1,6,8,10,12,13,14,57]) lF [0,1,6,8,10]) [0,1,6,8,10,12,13,14]) [0,1,6,8,10,12,13,14]) lF) [0,1,6,8,10,11,12,13,46]) (sQ (.NG [12] [] 0 12) (jN (sQ lF (.two (jN (sQ lF (.two (sQ lF lF [6,7]) lF) [0,1,6,8,10,84]) lF [0,1,6,8,10]) lF) [0,1,6,8,10,11,12,13,15,82]) (sQ lF (.two (.nG [12,14,16]) (sQ lF (.two (sQ lF lF [6,7]) lF) [0,1,6,8,10,105])) [0,1,6,8,10,11,12,13,15,87]) [0,1,6,8,10,11,12,13,15]) [0,1,6,8,10,11,12,13,15]) [0,1,6,8,10,11,12,13]) [0,1,6,8,10,11,12,13]) [0,1,6,8,10,11,12]) [0,1,6,8,10,11])) lF [0,1,6,8,10]) [0,1,6,8,10]) [0,1,6,8,10])) [0,1,6,8,10]) (sQ lF lF [6,7]) [6,8]) [0,1,6,8]) [0,1,6,8]) [0,1,6])
def W24 (p l:List Nat) (e:zJ):Prop:=xG Pg N24 B24 K24 p l (zn Pg R24 Q) e h
def z6u:Prop:=W24 Q h [1,1,0,1,0,0,1,1,1] [n] [(0,x0),(1,x1),(6,x6),(8,x8),(16,x16)]
def z6x:Prop:=W24 Q h [1,1,0,1,0,0,1,1] [n] [(0,x0),(1,x1),(6,x6),(8,x8),(16,x16)]
def zcc:Prop:=W24 Q h [1,1,1,0,1,0,0,1,1] [n] [(0,x0),(1,x1),(6,x6),(8,x8),(10,x10)]
def z91:Prop:=W24 Q h [1,1,1,0,1,0,0,1,0,0,1,1,1,0,1,0,1,0,1,0,1] [n] [(0,x0),(1,x1),(6,x6),(8,x8),(10,x10)]
def zaG:Prop:=W24 Q h [1,1,1,0,1,0,0,1,0,0,1,1,1,0,1,0,1,1,1] [n] [(0,x0),(1,x1),(6,x6),(8,x8),(10,x10)]
def zaX:Prop:=W24 Q h [1,1,1,0,1,0,0,1,0,0,1,1,1,0,1,0,1,1] [n] [(0,x0),(1,x1),(6,x6),(8,x8),(10,x10),(12,x12),(13,x13),(14,x14)]
def z7D:Prop:=W24 Q h [1,1,1,0,1,0,0,1,0,0,1,1,1,1,1,0,1,0,1] [n] [(0,x0),(1,x1),(6,x6),(8,x8),(10,x10)]
def z9Y:Prop:=W24 Q h [1,1,1,0,1,0,0,1,0,0,1,1,1,1,1,1] [n] [(0,x0),(1,x1),(6,x6),(8,x8),(10,x10),(11,x11),(12,x12),(13,x13),(15,x15)]
def z6T:Prop:=W24 Q h [1,1,1,0,1,0,0,1,0,0,1,1,1,1] [n] [(0,x0),(1,x1),(6,x6),(8,x8),(10,x10),(11,x11),(12,x12),(13,x13)]
def z6v:Prop:=W24 Q h [1,1,1,0,1,0,0,1] [n] [(0,x0),(1,x1),(6,x6),(8,x8),(10,x10)]
def z9l:Prop:=W24 Q h [1,1,1,1] [] [(6,x6),(8,x8)]
def z95:Prop:=W24 Q h [1,1,1,0,1,0,0,0,1] [n] [(0,x0),(1,x1),(6,x6),(8,x8),(10,x10),(31,x31)]
def Gzr:Prop:=yu Pg N24 B24 K24 [1,1,1,0,1,0,0,0,0] 2 1 [n] (zn Pg R24 Q) [(0,x0),(1,x1),(6,x6),(8,x8),(10,x10),(28,x28),(30,x30)] h
def Bo:Prop:=xX Pg N24 B24 K24 [1,1,1,0,1,0] [] n (zn Pg R24 Q) [(0,x0),(1,x1),(6,x6),(8,x8),(10,x10)] h
def E8:Prop:=W24 Q h [1,1,1] [] [(0,x0),(1,x1),(6,x6),(8,x8)]
def Fe:Prop:=xX Pg N24 B24 K24 [1,1,0,1,0] [] n (zn Pg R24 Q) [(0,x0),(1,x1),(6,x6),(8,x8),(16,x16)] h
theorem Ek:z6u Q n x0 x1 x6 x8 x16 h=(
 z0 (z03 (z0s .add 3 x16 (V.int .i64 1) true) h) λb c =>
 z7 (Fe Q n x0 x1 x6 x8 b c)):=K_
theorem Eb:z6x Q n x0 x1 x6 x8 x16 h=(
 z0 (z03 (z0y 78 []) h) λb c =>
 z0 (yp Pg c 65 1 [(0,b)]) λd e =>
 z0 (z03 (z0w 66 x8 x16) e) λf g =>
 z0 (z0t g 65 f d) λ_ i =>
 z7 (z6u Q n x0 x1 x6 x8 x16 i)):=K_
theorem CV:zcc Q n x0 x1 x6 x8 x10 h=(
 z0 (z03 (z0s .add 3 x10 (V.int .i64 1) true) h) λb c =>
 z7 (Bo Q n x0 x1 x6 x8 b c)):=K_
theorem Bh:z91 Q n x0 x1 x6 x8 x10 h=(
 z7 (zcc Q n x0 x1 x6 x8 x10 h)):=K_
theorem GI:zaG Q n x0 x1 x6 x8 x10 h=(
 z7 (zcc Q n x0 x1 x6 x8 x10 h)):=K_
theorem Wh:zaX Q n x0 x1 x6 x8 x10 x12 x13 x14 h=(
 z0 (z03 (z0s .eql 36 x14 (V.int .i64 0) true) h) λb c =>
 zP b (
 z0 (yp Pg c 65 0 []) λd e =>
 z0 (z03 (yC Pg e 65 x13 (some (V.int .i64 1)) none) e) λf g =>
 z0 (z0u g .append [65,65] [d,f]) λi j =>
 z0 (z03 (z0w 66 x8 x12) j) λk l =>
 z0 (z0t l 65 k i) λ_ m =>
 z7 (zaG Q n x0 x1 x6 x8 x10 m)) (
 z0 (z03 (z0s .neq 36 x14 (V.int .i64 5) true) c) λo p =>
 zP o (
 z0 (z0o p 66 x8) λq r =>
 z0 (z0t r 66 x6 q) λ_ s =>
 yq (zX Pg [(6,x6),(7,(V.bool false))] s R24) λv=>Q (.ret v) s) (
 z7 (zaG Q n x0 x1 x6 x8 x10 p)))):=K_
theorem FM:z7D Q n x0 x1 x6 x8 x10 h=(
 z7 (zcc Q n x0 x1 x6 x8 x10 h)):=K_
theorem GM:z9Y Q n x0 x1 x6 x8 x10 x11 x12 x13 x15 h=(
 z0 (z03 (z0s .eql 36 x15 (V.int .i64 0) true) h) λb c =>
 zP b (
 zc (zj (z03 (z0w 65 x13 (V.int .i64 0)) c)) λd =>
 zc (zj (z03 (z0e 78 d 0) c)) λe =>
 zc (zj (z0o c 56 e)) λf =>
 (
 zc (zj (z03 (z0e 75 x11 1) c)) λg =>
 zc (zj (z0o c 5 g)) λi =>
 (
 zc (zj (z03 (z0F c 5 56 i) c)) λj =>
 (
 zc (zj (z03 (z0s .add 56 f j false) c)) λk =>
 zc (zj (z03 (z0e 75 x11 2) c)) λl =>
 zc (zj (z0o c 73 l)) λm =>
 (
 zc (zj (z03 (z0y 78 [(0,k),(1,m)]) c)) λo =>
 z0 (yp Pg c 65 1 [(0,o)]) λp q=>(
 z0 (z0u q .append [65,65] [p,x13]) λr s=>(
 zc (zj (z03 (z0w 66 x8 x12) s)) λt =>
 z0 (z0t s 65 t r) λ_ u=>(
 z7 (zcc Q n x0 x1 x6 x8 x10 u))))))))) (
 z0 (z03 (z0s .neq 36 x15 (V.int .i64 5) true) c) λw y =>
 zP w (
 z0 (z0o y 66 x8) λz A =>
 z0 (z0t A 66 x6 z) λ_ B =>
 yq (zX Pg [(6,x6),(7,(V.bool false))] B R24) λv=>Q (.ret v) B) (
 z7 (zcc Q n x0 x1 x6 x8 x10 y)))):=K_
theorem Dr:z6T Q n x0 x1 x6 x8 x10 x11 x12 x13 h=(
 zc (zj (z03 (z0w 65 x13 (V.int .i64 0)) h)) λb =>
 zc (zj (z03 (z0e 78 b 0) h)) λc =>
 zc (zj (z0o h 56 c)) λd =>
 (
 zc (zj (z03 (z0e 75 x11 1) h)) λe =>
 zc (zj (z0o h 5 e)) λf =>
 (
 zc (zj (z03 (z0F h 5 56 f) h)) λg =>
 (
 zc (zj (z03 (z0s .add 56 d g false) h)) λi =>
 zc (zj (z03 (z0e 75 x11 2) h)) λj =>
 zc (zj (z0o h 73 j)) λk =>
 (
 z0q 28 [x0,x12,i,k] h (zS (λl m=>(
 z0 (z03 (z0e 75 x11 1) m) λo p =>
 z0 (z0o p 5 o) λq r =>
 z0 (z03 (z0s .eql 5 q (V.int .u8 0) true) r) λs t =>
 zP s (
 z0 (z03 (z0s .neq 36 l (V.int .i64 1) true) t) λu w =>
 zP u (
 z0 (z0o w 66 x8) λy z =>
 z0 (z0t z 66 x6 y) λ_ A =>
 yq (zX Pg [(6,x6),(7,(V.bool false))] A R24) λv=>Q (.ret v) A) (
 z7 (z7D Q n x0 x1 x6 x8 x10 w))) (
 z7 (z9Y Q n x0 x1 x6 x8 x10 x11 x12 x13 l t)))) λ_ _=>False)))))):=K_
theorem Gi:z6v Q n x0 x1 x6 x8 x10 h=(
 z0 (z03 (z0w 63 x1 x10) h) λb c =>
 z0 (z0o c 75 b) λd e =>
 z0 (z0D e 75) λf g =>
 z0 (z0t g 75 f d) λ_ i =>
 z0 (z03 (z0e 75 f 0) i) λj k =>
 z0 (z0o k 5 j) λl m =>
 z0 (z03 (z0s .rem 5 l (V.int .u8 3) true) m) λo p =>
 z0 (z03 (z0F p 5 41 o) p) λq r =>
 z0 (z03 (z0w 66 x8 q) r) λs t =>
 z0 (z0o t 65 s) λu w =>
 z0 (z03 (z0e 75 f 3) w) λy z =>
 z0 (z0o z 4 y) λA B =>
 zP A (
 z0q 30 [x0,q] B (zS (λC D =>
 z0 (z0u D .len [65] [u]) λE F =>
 z0 (z03 (z0s .eql 3 E (V.int .i64 1) true) F) λG H =>
 zP G (
 z0 (z03 (z0s .neq 36 C (V.int .i64 1) true) H) λI J =>
 zP I (
 z0 (z0o J 66 x8) λK L =>
 z0 (z0t L 66 x6 K) λ_ M =>
 yq (zX Pg [(6,x6),(7,(V.bool false))] M R24) λv=>Q (.ret v) M) (
 z7 (z91 Q n x0 x1 x6 x8 x10 J))) (
 z7 (zaX Q n x0 x1 x6 x8 x10 q u C H))) λv h=>Q (.panic v) h)) (
 z7 (z6T Q n x0 x1 x6 x8 x10 f q u B))):=K_
theorem B8:z9l Q x6 x8 h=(
 z0 (z0o h 66 x8) λb c =>
 z0 (z0t c 66 x6 b) λ_ d =>
 yq (zX Pg [(6,x6),(7,(V.bool true))] d R24) λv=>Q (.ret v) d):=K_
theorem Ep:z95 Q n x0 x1 x6 x8 x10 x31 h=(
 zP x31 (
 z7 (z6v Q n x0 x1 x6 x8 x10 h)) (
 z7 (z9l Q x6 x8 h))):=K_
theorem Sa:Gzr Q n x0 x1 x6 x8 x10 x28 x30 h=(
 z0 (yc x28 x30 (V.bool false) h) λb c =>
 z7 (z95 Q n x0 x1 x6 x8 x10 b c)):=K_
theorem PP:Bo Q (n+1) x0 x1 x6 x8 x10 h=(
 z0 (z0u h .len [63] [x1]) λb c =>
 z0 (z03 (z0s .lss 3 x10 b false) c) λd e =>
 vp d true (
 z0 (z03 (z0s .lss 3 x10 (V.int .i64 40) true) e) λf g =>
 z7 (Gzr Q n x0 x1 x6 x8 x10 d f g)) (z7 (Gzr Q n x0 x1 x6 x8 x10 d yw e))):=K_
theorem EL:E8 Q x0 x1 x6 x8 h=(
 ∃ n,z7 (Bo Q n x0 x1 x6 x8 (V.int .i64 0) h)):=K_
theorem P7:Fe Q (n+1) x0 x1 x6 x8 x16 h=(
 z0 (z03 (z0s .lss 3 x16 (V.int .i64 3) true) h) λb c =>
 zP b (
 z7 (z6x Q n x0 x1 x6 x8 x16 c)) (
 z7 (E8 Q x0 x1 x6 x8 c))):=K_
theorem C24 (c :
 z0 (z0D h 66) λb c =>
 z0 (z0D c 66) λd e =>
 ∃ n,z7 (Fe Q n a0 a1 b d (V.int .i64 0) e)):z0q 24 [a0,a1,a2] h Q :=
 mkC Tryz.func24 B24 N24 K24 R24 c
def B25:=bd Tryz.f25
def R25:List ResultVar:=[.tmp 6]
abbrev N25:=41
def K25:KT:=(sQ lF (sQ lF (jN (jN (.rm [[2,7,19,24]]) (.two (sQ lF lF [6]) lF) [2,7,25]) (jN (sQ lF (.one (.loop (sQ lF (jN (.two lF lF) (jN (.one (sQ lF (sQ lF (.two (sQ lF lF [6]) lF) [2,7,27,28,39]) [2,7,9,27,28])) lF [2,7,27,28]) [2,7,27,28]) [2,7,27,28,29]) [2,7,27,28])) [2,7,27,28]) (sQ lF lF [6]) []) [2,7]) [2,7,8]) [0,1,2])
def W25 (p l:List Nat) (e:zJ):Prop:=xG Pg N25 B25 K25 p l (zn Pg R25 Q) e h
def z8w:Prop:=W25 Q h [1,1,1,0,1,0,0,1,1,1] [n] [(2,x2),(7,x7),(27,x27),(28,x28)]
def z9R:Prop:=W25 Q h [1,1,1,0,1,0,0,1,1] [n] [(2,x2),(7,x7),(27,x27),(28,x28)]
def z9B:Prop:=W25 Q h [1,1,1,1] [] []
def De:Prop:=xX Pg N25 B25 K25 [1,1,1,0,1,0] [] n (zn Pg R25 Q) [(2,x2),(7,x7),(27,x27),(28,x28)] h
def zc4:Prop:=W25 Q h [1,1,1] [] [(2,x2),(7,x7)]
def z34:Prop:=W25 Q h [1,1,0,1] [] [(2,x2),(7,x7),(25,x25)]
def Gzs:Prop:=yu Pg N25 B25 K25 [1,1,0,0] 2 1 [] (zn Pg R25 Q) [(2,x2),(7,x7),(19,x19),(24,x24)] h
theorem I4:z8w Q n x2 x7 x27 x28 h=(
 z0 (z03 (z0s .add 3 x28 (V.int .i64 1) true) h) λb c =>
 z7 (De Q n x2 x7 x27 b c)):=K_
theorem F5:z9R Q n x2 x7 x27 x28 h=(
 zc (zj (z03 (z0w 65 x7 x28) h)) λb =>
 zc (zj (z0o h 78 b)) λc =>
 zc (zj (z03 (z0w 65 x2 x28) h)) λd =>
 zc (zj (z0o h 78 d)) λe =>
 zc (zj (z03 (z0s .neq 78 c e false) h)) λf =>
 zP f (
 Q (.ret (V.bool false)) h) (
 z7 (z8w Q n x2 x7 x27 x28 h))):=K_
theorem HF:z9B Q h=(
 Q (.ret (V.bool true)) h):=K_
theorem Q8:De Q (n+1) x2 x7 x27 x28 h=(
 z0 (z03 (z0s .lss 3 x28 x27 false) h) λb c =>
 zP b (
 z7 (z9R Q n x2 x7 x27 x28 c)) (
 z7 (z9B Q c))):=K_
theorem E9:zc4 Q x2 x7 h=(
 z0 (z0u h .len [65] [x7]) λb c =>
 ∃ n,z7 (De Q n x2 x7 b (V.int .i64 0) c)):=K_
theorem Gk:z34 Q x2 x7 x25 h=(
 zP x25 (
 Q (.ret (V.bool false)) h) (
 z7 (zc4 Q x2 x7 h))):=K_
theorem z3I:Gzs Q x2 x7 x19 x24 h=(
 z0 (yc x19 (V.bool true) x24 h) λb c =>
 z7 (z34 Q x2 x7 b c)):=K_
theorem C25 (c :
 z0q 14 [a0] h (zS (λb c =>
 z0q 70 [b,a1] c (zS (λd e =>
 z0 (z03 (zm d 0) e) λf g =>
 z0 (z03 (zm d 1) g) λi j =>
 z0 (z03 (z0s .neq 36 i (V.int .i64 0) true) j) λk l =>
 vp k false (
 z0 (z0u l .len [65] [f]) λm o =>
 z0 (z0u o .len [65] [a2]) λp q =>
 z0 (z03 (z0s .neq 3 m p false) q) λr s =>
 z7 (Gzs Q a2 f k r s)) (z7 (Gzs Q a2 f k yw l))) λv h=>Q (.panic v) h)) λv h=>Q (.panic v) h)):z0q 25 [a0,a1,a2] h Q :=
 mkC Tryz.func25 B25 N25 K25 R25 c
def B27:=bd Tryz.f27
def R27:List ResultVar:=[.tmp 0]
abbrev N27:=27
def K27:KT:=(sQ lF (sQ lF (jN (jN (.rm [[2,9,13]]) (.two (sQ lF lF [0]) lF) [2,14]) (jN (.rm [[21,25]]) lF [0]) [2]) [2]) [])
def W27 (p l:List Nat) (e:zJ):Prop:=xG Pg N27 B27 K27 p l (zn Pg R27 Q) e h
def zaS:Prop:=W27 Q h [1,1,1,1] [] [(0,x0)]
def Gzu:Prop:=yu Pg N27 B27 K27 [1,1,1,0] 2 1 [] (zn Pg R27 Q) [(21,x21),(25,x25)] h
def z6g:Prop:=W27 Q h [1,1,1] [] [(2,x2)]
def z35:Prop:=W27 Q h [1,1,0,1] [] [(2,x2),(14,x14)]
def Gzt:Prop:=yu Pg N27 B27 K27 [1,1,0,0] 2 1 [] (zn Pg R27 Q) [(2,x2),(9,x9),(13,x13)] h
theorem Gf:zaS Q x0 h=(
 Q (.ret x0) h):=K_
theorem Kb:Gzu Q x21 x25 h=(
 z0 (yc x21 x25 (V.bool false) h) λb c =>
 z7 (zaS Q b c)):=K_
theorem Bk:z6g Q x2 h=(
 z0 (z03 (z0y 73 [(0,(V.int .u8 7))]) h) λb c =>
 z0 (z03 (z0y 78 [(0,(V.int .u32 5)),(1,b)]) c) λd e =>
 z0 (z03 (z0y 78 []) e) λf g =>
 z0 (yp Pg g 65 2 [(0,d),(1,f)]) λi j =>
 z0q 25 [x2,(V.int .u16 1),i] j (zS (λk l =>
 vp k true (
 z0q 20 [x2] l (zS (λm o =>
 z0q 26 [m] o (zS (λp q =>
 z0 (z03 (z0s .eql 3 p (V.int .i64 1) true) q) λr s =>
 z7 (Gzu Q k r s)) λv h=>Q (.panic v) h)) λv h=>Q (.panic v) h)) (z7 (Gzu Q k yw l))) λv h=>Q (.panic v) h)):=K_
theorem Q5:z35 Q x2 x14 h=(
 zP x14 (
 Q (.ret (V.bool false)) h) (
 z7 (z6g Q x2 h))):=K_
theorem z30:Gzt Q x2 x9 x13 h=(
 z0 (yc x9 (V.bool true) x13 h) λb c =>
 z7 (z35 Q x2 b c)):=K_
theorem C27 (c :
 z0q 23 [(V.int .i64 2),(V.int .i64 4)] h (zS (λb c =>
 z0 (z03 (zm b 0) c) λd e =>
 z0 (z03 (zm b 1) e) λf g =>
 z0 (z03 (z0s .eql 24 f (V.ptr none) true) g) λi j =>
 vp i false (
 z0 (z03 (z0y 73 [(0,(V.int .u8 7))]) j) λk l =>
 z0q 28 [f,(V.int .u16 1),(V.int .u32 5),k] l (zS (λm o =>
 z0 (z03 (z0s .neq 36 m (V.int .i64 0) true) o) λp q =>
 z7 (Gzt Q f i p q)) λv h=>Q (.panic v) h)) (z7 (Gzt Q f i yw j))) λv h=>Q (.panic v) h)):z0q 27 [] h Q :=
 mkC Tryz.func27 B27 N27 K27 R27 c
end
end
def dF (i:Nat):vd:=if i<3 then (false,i) else (true,i-3)
def Zj (n:Nat):ZO:=⟨3,n,200,1073741824⟩
structure Dk.Vd (d:Dk) (un:Nat):Prop where
 wG:d.wG
 n:d.n=205+un
 ops:d.ops<=100
 zT:d.zT=[]
 seen:pY d.seen
 zH:∀ i,i<3+un->tu d.seen (2+i)=wN 0 (W6 (dF i))
section
variable {h0:AH} {pd fr un:Nat}
theorem Q0 {Q:yO->AH->Prop} (h4:4<=fr/\fr<=32) (hu:1<=un/\un<=16) (c:∀ pb n r d' h',zb gU h0 h'->n.c.d=pd->d'.Vd un->BsA h' pb n (Zj un) (Ca.new d' (Lg.new pd (5+un) 200 1 0 1) fr 3 un)->jy h' n.pr r (Ro.new un)->Q (.ret (.yX [pU pd,fD pb])) h'):∀ (j i m:Nat) (h:AH) (d:Dk),i+j=3+un->j<m->zb gU h0 h->vx h0->qf h pd d->d.wG->d.n=205+un->d.ops<=i->d.zT.length<=4*i->(∀ k,k<i->tu d.seen (2+k)=wN 0 (W6 (dF k))) ->
 Ln Q m (.int .i64 un) (.int .i64 fr) (pU pd) (.int .i64 (i:Nat)) h
 | j,i,0,h,d,e,hm,_,_,_,_,_,_,_,_=>by omega
 | 0,i,m+1,h,d,e,hm,q,own,k,f,hn,ho,hp,hs=>by
  obtain rfl:i=3+un:=O_;rw [PI];refine zE O_ O_ ?_;refine yD O_ ?_;apply yZ;refine sm (HX ..) ?_;refine xN (Tv k O_ O_) λh1 q1 k1=>?_;rw [f.sync] at k1 ⊢;refine yx (show (0:Int)=0 from rfl) ?_;apply yZ;refine sm (Cp ..) ?_;refine z6 (show zD Pg 116 [(0,.int .i64 3),(1,.int .i64 un),(2,.int .i64 200),(3,.int .u32 1073741824)]=some (cfV (Zj un)) from K_) ?_;have k1':qf h1 pd (({ d with ops:=d.ops+1 }:Dk).settle [] true):=k1;have qq:=q.trans q1;have qA:(({ d with ops:=d.ops+1 }:Dk).settle [] true).n=205+un:=hn;refine Uh (z2c (fr:=fr) (ep:=1) (num:=0) (fin:=1) k1' (qq.own own) (Zj un) h4 (by show 1<=3/\3<=16;decide) ⟨hu.1,by show un<=32;omega⟩ (by show 1<=200;decide) (by rw [qA];show 2+3+un+200<=_;omega) (by show 1073741824<4294967296;decide) D_ D_ D_) λpb h2 l2 q2 ⟨n,r,e1,k2,rb⟩=>?_;have ea:2+(Zj un).zH+(Zj un).zU=5+un:=by show 2+3+un=_;omega
  rw [ea] at k2;exact c pb n r (({ d with ops:=d.ops+1 }:Dk).settle [] true) h2 (qq.trans (q2.sub rfl)) e1 ⟨⟨f.uT,f.down,f.ug⟩,hn,by show d.ops+1<=100;omega,rfl,k.ok.seen,hs⟩ k2 rb
 | j+1,i,m+1,h,d,e,hm,q,own,k,f,hn,ho,hp,hs=>by
  have hi:i<3+un:=O_;rw [PI];refine zE O_ O_ ?_;refine xH O_ ?_;apply xz;refine sm (G1 ..) ?_;refine kh E_ O_ O_ ?_;refine z6 (show zD Pg 43 [(1,.int .u16 (i:Nat))]=some (pV (false,i)) from K_) ?_;refine zq (yA (show xk Pg 43=some (pV (false,0)) from K_) (fJ _)) λh1 u1=>?_;have n1:=u1.next;have q1:zb [] h h1:=zb.new u1;refine zq (zM (p:=[]) u1.at_ K_ rfl (fJ (false,i)) rfl) λh2 u2=>?_;have n2:=u2.next;have q2:zb [] h h2:=q1.ya u2 (Nat.le_refl _);have hid:(dF i).2<65536:=by unfold dF;split <;> (simp only;omega)
  -- the xu is written
  have wr:∀ h5,zb [] h h5->h5.m h.next=some (.cells true (.one 43) (pV (dF i)))->z7 (zc2 Q m (.int .i64 un) (.int .i64 fr) (pU pd) (.int .i64 (i:Nat)) (.ptr (some ⟨h.next,.one 43,[]⟩)) h5):=by
   intro h5 q5 f5;have k5:=k.zA q5 rfl rfl rfl rfl;refine sm (RV ..) ?_;refine zE O_ O_ ?_;refine zl f5 K_ (w:=pV (dF i)) rfl ?_;refine yf (WR (i:=dF i) hid h5) ?_;refine yf (Kx (tO _) (st:=0) D_ h5) ?_;rw [show (2:Int)+(i:Nat)=((2+i:Nat):Int) by omega];refine xN (WM k5 O_ O_ _ (lX (tO _))) λh6 q6 k6=>?_;rw [f.write O_] at k6 ⊢;refine yx (show (0:Int)=0 from rfl) ?_;apply yZ;refine sm (CA ..) ?_;refine zE O_ O_ ?_;exact z7.of (Q0 h4 hu c j (i+1) m h6 _ O_ O_ (q.trans ((q5.sub rfl).trans q6)) own k6 (f.put _ _ _ _) hn (by show d.ops+1<=i+1;omega) (by
    show (Z7 d.zT _ _ 4).length<=_;rw [kB];omega) (λkk hk=>by
    show tu (jS d.seen (2+i) _ 4) (2+kk)=_;rw [fQ (lX (tO _))];by_cases e:kk=i
    ·subst e;rw [if_pos rfl]
    ·rw [if_neg O_];exact hs kk O_))
  by_cases g:3<=i
  ·refine rj O_ ?_;apply xz;refine rQ O_ O_ ?_;refine kh E_ O_ O_ ?_;rw [show (i:Int)-3=((i-3:Nat):Int) by omega];refine z6 (show zD Pg 43 [(0,.bool true),(1,.int .u16 ((i-3:Nat):Int))]=some (pV (true,i-3)) by kernel_rfl) ?_;refine zq (zM (p:=[]) u2.at_ K_ rfl (fJ (true,i-3)) rfl) λh3 u3=>?_;exact wr h3 (q2.ya u3 (Nat.le_refl _)) (by rw [u3.at_];unfold dF;rw [if_neg O_])
  ·refine qm O_ ?_;apply yZ;exact wr h2 q2 (by rw [u2.at_];unfold dF;rw [if_pos O_])
end
def GV (h:AH) (un fr:Nat):yO->AH->Prop:=λe h'=>∃ pd pb n r d,e=.ret (.yX [pU pd,fD pb])/\zb gU h h'/\n.c.d=pd/\d.Vd un/\BsA h' pb n (Zj un) (Ca.new d (Lg.new pd (5+un) 200 1 0 1) fr 3 un)/\jy h' n.pr r (Ro.new un)
theorem P9 {un fr:Nat} (h4:4<=fr/\fr<=32) (hu:1<=un/\un<=16) {h:AH} (own:vx h):z0q 23 [.int .i64 un,.int .i64 fr] h (GV h un fr):=by
 refine C23 _ _ _ _ ?_;refine zE O_ O_ ?_;refine zE O_ O_ ?_;rw [show (5:Int)+(un:Nat)+200=((205+un:Nat):Int) by omega];refine Uh (zbH (n:=205+un) O_ O_ h) λpd h1 l1 q1 k1=>?_;refine z6 (show zi Pg .eql 23 (.ptr (some _)) (.ptr none) true=some (.bool false) from K_) ?_;apply yZ;refine sm (P5 ..) ?_;refine ⟨4+un,z7.of ?_⟩;exact Q0 (h0:=h1) (pd:=pd) h4 hu (λpb n r d' h' a2 a3 a4 a5 a6=>⟨pd,pb,n,r,d',rfl,(q1.sub rfl).trans a2,a3,a4,a5,a6⟩) (3+un) 0 (4+un) h1 (Dk.new (205+un)) O_ O_ (zb.refl _ _) (q1.own own) k1 ⟨rfl,rfl,λ_=>rfl⟩ rfl (Nat.le_refl _) (Nat.le_refl _) (λk hk=>by omega)
theorem Sk {un fr pd:Nat} {d:Dk} (h4:4<=fr/\fr<=32) (hu:1<=un/\un<=16) (f:d.Vd un) (ok:(Ca.new d (Lg.new pd (5+un) 200 1 0 1) fr 3 un).ok) :
 Vs (Ca.new d (Lg.new pd (5+un) 200 1 0 1) fr 3 un) (Ro.new un) (λ_=>[]) (λ_=>[])/\(Ca.new d (Lg.new pd (5+un) 200 1 0 1) fr 3 un).ub 0/\(∀ no,no<3->(Ca.new d (Lg.new pd (5+un) 200 1 0 1) fr 3 un).data no=Dt.z)/\(Ro.new un).jK=0:=by
 have hn:=f.n;have hnn:(Ck.new fr).n=fr:=by simp [Ck.new,Ck.n]
 have JX:∀ (i:Nat) (x:vd),i<3+un->dF i=x->(Ca.new d (Lg.new pd (5+un) 200 1 0 1) fr 3 un).wY x=2+i->x.2<65536->(Ca.new d (Lg.new pd (5+un) 200 1 0 1) fr 3 un).pg x=W6 x:=λi x hi hx X7 hx2=>by
  have e:(Ca.new d (Lg.new pd (5+un) 200 1 0 1) fr 3 un).pg x=(Ca.new d (Lg.new pd (5+un) 200 1 0 1) fr 3 un).vw x:=uy rfl;rw [e];unfold Ca.vw;rw [X7];show (vf (qr x) (W6 x) (tu d.seen (2+i))).1=_;rw [f.zH i hi,hx];exact YV (tO _) (Um hx2)
 have pd':∀ no,no<3->(Ca.new d (Lg.new pd (5+un) 200 1 0 1) fr 3 un).data no=Dt.z:=λno vk=>by
  unfold Ca.data;rw [JX no (false,no) O_ (by unfold dF;rw [if_pos vk]) (by unfold Ca.wY;rw [if_neg S_]) (by show no<_;omega)];show rq (rF no Dt.z)=_;exact VI kW
 have pu':∀ q,q<un->(Ca.new d (Lg.new pd (5+un) 200 1 0 1) fr 3 un).pg (true,q)=tg q ⟨0,[]⟩:=λq hq =>
  JX (3+q) (true,q) O_ (by unfold dF;rw [if_neg O_,show 3+q-3=q by omega]) (by unfold Ca.wY;rw [if_pos rfl];show 2+3+q=_;omega) (by show q<_;omega)
 refine ⟨⟨⟨⟨ok,by rw [show (Ca.new d (Lg.new pd (5+un) 200 1 0 1) fr 3 un).ck=Ck.new fr from rfl,hnn];show 0<fr;omega,by rw [show (Ca.new d (Lg.new pd (5+un) 200 1 0 1) fr 3 un).ck=Ck.new fr from rfl,hnn];simp [Ck.new],f.seen,by show 5+un=2+3+un;omega,by show 5+un+200<=d.n;omega,⟨by show 1<=200/\200<=2000;decide,by show 0<214;decide,(λc hc=>nomatch hc),rfl,by show 0<=200;decide,by show 1<4294967296;decide,by show 1<1000000000000;decide⟩,(λx hx=>nomatch hx),(λx hx=>nomatch hx)⟩,λx hx=>(List.mem_replicate.1 (show x∈List.replicate fr 0 from hx)).2,by show (List.replicate un Un.z).length=un;simp,by show 0<un;omega,λq hq=>?_⟩,λno vk=>?_,λ_ _=>List.nodup_nil,λa b _ _ _ x hx=>(nomatch hx)⟩,⟨by show d.ops<=_;have:=f.ops;omega,by show d.zT.length<=_;rw [f.zT];decide,by show 1<=_;omega⟩,pd',?_⟩
 ·have hq:q<un:=hq;rw [pu' q hq,lz O_ ⟨D_,(λo ho=>absurd ho S_),D_⟩ jT];show some (⟨0,[]⟩:Un)=some (((List.replicate un Un.z)[q]?).getD Un.z);rw [List.getElem?_replicate,if_pos hq];rfl
 ·have vk:no<3:=vk;rw [pd' no vk];exact (rfl:Dt.z.pp=0)
 ·show ((List.replicate un Un.z).map λu=>wi u.zt).sum=0;rw [List.map_replicate,List.sum_replicate_nat];show un*0=0;omega
structure Pl (un k a:Nat) (c:Ca) (ro:Ro) (vs:eS) (ps:eY):Prop where
 vv:Vs c ro vs ps
 wG:c.dk.wG
 ub:c.ub k
 bl:c.lg.blocks<=2*a
 pg:c.zH=3
 xF:c.zU=un
 size:c.lg.size=200
theorem Pl.fin {un k a:Nat} {c:Ca} {ro:Ro} {vs:eS} {ps:eY} (p:Pl un k a c ro vs ps) (hk:k<=30000):c.lg.fin<999999900000:=by
 have:=p.ub.fin;omega
theorem Pl.deep {un k a m:Nat} {c:Ca} {ro:Ro} {vs:eS} {ps:eY} (p:Pl un k a c ro vs ps) (hk:k+m<=30000):c.deep m:=iX m p.vv.cm.sv p.vv.cm.rest p.ub O_
theorem Pl.next {un k a k' a':Nat} {c c':Ca} {ro Y6:Ro} {vs uz:eS} {ps ZG:eY} (p:Pl un k a c ro vs ps) (on:c.on c') (v:Vs c' Y6 uz ZG) (u:c'.ub k') (b:c'.lg.blocks<=2*a'):Pl un k' a' c' Y6 uz ZG :=
 ⟨v,on.dk.wG p.wG,u,b,on.zH.trans p.pg,on.zU.trans p.xF,on.size.trans p.size⟩
theorem Pl.as {un k a k':Nat} {c c':Ca} {ro:Ro} {vs:eS} {ps:eY} (p:Pl un k a c ro vs ps) (v:Vs c' ro vs ps) (s:c.as c') (u:c'.ub k'):Pl un k' a c' ro vs ps :=
 p.next s.on v u (by rw [s.lg.blocks];exact p.bl)
section
variable {un k a:Nat} {c:Ca} {ro:Ro} {vs:eS} {ps:eY}
theorem Pl.install (p:Pl un k a c ro vs ps) (hk:k<=30000) (ha:a<=97) {no ts:Nat} {body:List UInt8} (hn:no<3) (gy:ts<4294967296) (hb:body.length=64) :
 ((c.wd ro no ts body).1=0/\(c.data no).ts<ts/\(∃ ZG,Pl un (k+4) (a+2) (c.wd ro no ts body).2.1 (c.wd ro no ts body).2.2 (NR vs no ({ c.data no with zZ:=0 } :: vs no)) ZG)/\((c.wd ro no ts body).2.1.data no).vn=⟨ts,body⟩/\(∀ m,m≠no->m<3->(c.wd ro no ts body).2.1.data m=c.data m)/\(c.wd ro no ts body).2.2.jK=ro.jK+1 /\
  ∃ u at_ o zZ,u<un/\o.live=true/\o.dl.length<=66/\o.dl.length=(xC body (c.data no).body).length/\xv (ro.xu u).zt o.dl.length=some at_/\(c.wd ro no ts body).2.2.us=ro.us.set u ⟨zZ,yS (ro.xu u).zt at_ o⟩) \/
 ((c.wd ro no ts body).1≠0/\Pl un (k+4) a (c.wd ro no ts body).2.1 ro vs ps/\(c.wd ro no ts body).2.2=ro/\(∀ m,m<3->(c.wd ro no ts body).2.1.data m=c.data m)/\(c.wd ro no ts body).2.1.lg.fin=c.lg.fin /\
  (((c.wd ro no ts body).1=1/\ts<=(c.data no).ts)\/((c.wd ro no ts body).1=5/\(c.data no).ts<ts/\∀ u∈ro.us,uO (xC body (c.data no).body).length u=false))):=by
 have h0:=p.bl;have h1:=p.size;obtain ⟨s1,s2,s3,s4,s5⟩:=Uj p.vv (no:=no) (ts:=ts) (body:=body) (by rw [p.pg];exact hn) gy hb (p.fin hk) O_;generalize c.wd ro no ts body=y at *;rcases s5 with ⟨r1,r2,⟨ZG,r3⟩,r4,r5,r6,r7,u,at_,o,zZ,r8,r9,r10,r11,r12,r13⟩ | ⟨r1,r2,r3,r4⟩
 ·refine .inl ⟨r1,r2,⟨ZG,p.next s1 r3 (s4 k p.ub) (by have:=s3 p.wG;omega)⟩,?_,λm h1 h2=>r6 m h1 (by rw [p.pg];exact h2),r7,u,at_,o,zZ,by rw [<- p.xF];exact r8,r9,r10,r11,r12,r13⟩;unfold Dt.vn;rw [r4,r5]
 ·have fin:c.as y.2.1->y.2.2=ro->Pl un (k+4) a y.2.1 ro vs ps/\y.2.1.lg.fin=c.lg.fin:=λg e=>⟨p.as (by rw [<- e];exact r2) g (s4 k p.ub),g.lg.fin⟩
  rcases r4 with ⟨q1,q2,q3,q4⟩ | ⟨q1,q2,q3,q4,q5⟩ | q
  ·obtain ⟨f1,f2⟩:=fin q4 q3;exact .inr ⟨r1,f1,q3,λm hm=>r3 m (by rw [p.pg];exact hm),f2,.inl ⟨q1,q2⟩⟩
  ·obtain ⟨f1,f2⟩:=fin q5 q4;exact .inr ⟨r1,f1,q4,λm hm=>r3 m (by rw [p.pg];exact hm),f2,.inr ⟨q1,q2,q3⟩⟩
  ·exact absurd (q.2 p.wG) r1
theorem Pl.pop (p:Pl un k a c ro vs ps) (hk:k<=30000) (ha:a<=97) {no:Nat} (hn:no<3) :
 (vs no=[]/\(c.lM ro no).1=1/\Pl un (k+4) (a+2) (c.lM ro no).2.1 (c.lM ro no).2.2 vs ps/\(c.lM ro no).2.2=ro/\(∀ m,m<3->(c.lM ro no).2.1.data m=c.data m)) \/
 (∃ w l,vs no=w :: l/\(c.lM ro no).1=0/\(∃ ZG,Pl un (k+4) (a+2) (c.lM ro no).2.1 (c.lM ro no).2.2 (NR vs no l) ZG)/\((c.lM ro no).2.1.data no).vn=w.vn/\w.ts<(c.data no).ts/\(∀ m,m≠no->m<3->(c.lM ro no).2.1.data m=c.data m)/\(c.lM ro no).2.2.jK+1=ro.jK):=by
 have h0:=p.bl;have h1:=p.size;obtain ⟨s1,s2,s3,s4⟩:=D3 p.vv (no:=no) (by rw [p.pg];exact hn) (p.fin hk) O_;generalize c.lM ro no=y at *;rcases s4 with ⟨r1,w,l,r2,⟨ZG,r3⟩,r4,r5,r6,r7,r8⟩ | ⟨r1,r2,r3,r4⟩
 ·refine .inr ⟨w,l,r2,r1,⟨ZG,p.next s1 r3 (s3 k p.ub) O_⟩,?_,r5,λm h1 h2=>r7 m h1 (by rw [p.pg];exact h2),r8 p.wG⟩;unfold Dt.vn;rw [r4,r6]
 ·rcases r4 with ⟨q1,q2,q3⟩ | q
  ·exact .inl ⟨q2,q1,p.next s1 r2 (s3 k p.ub) O_,q3,λm hm=>r3 m (by rw [p.pg];exact hm)⟩
  ·exact absurd (q.2 p.wG) r1
theorem Pl.z9u (p:Pl un k a c ro vs ps) {no m:Nat} (hn:no<3) (hm:(vs no).length<m) :
 ((c.yg no).1.2=0->Ca.ends no m (c.yg no).2 (c.yg no).1.1)/\(c.sP no m).1=(0,(c.data no).vn :: (vs no).map Dt.vn)/\Pl un (k+1+(vs no).length) a (c.sP no m).2 ro vs ps/\(∀ m',m'<3->(c.sP no m).2.data m'=c.data m')/\(∀ d∈(c.sP no m).1.2,d.body.length=64)/\(c.sP no m).1.2.length<=(vs no).length+1:=by
 obtain ⟨e,s1,s2,s3,s4,s5,s6,s7⟩:=L0 p.vv (no:=no) (k:=m) (by rw [p.pg];exact hn) hm;have h0:=s4.2 p.wG;refine ⟨e,?_,p.as s1 s2 (s3 k p.ub),λm' oN=>?_,s6,s7⟩
 ·have:=s5 h0;generalize (c.sP no m).1=y at *;obtain ⟨a,b⟩:=y;simp only at h0 this;rw [h0,this]
 ·unfold Ca.data;rw [s2.pg (false,m') (fK.2 (by rw [p.pg];exact oN))]
theorem Pl.yg (p:Pl un k a c ro vs ps) {no:Nat} (hn:no<3):(c.yg no).1=(c.data no,0)/\Pl un (k+1) a (c.yg no).2 ro vs ps/\(∀ m',m'<3->(c.yg no).2.data m'=c.data m')/\(c.yg no).2.lg.fin=c.lg.fin:=by
 have qA:no<c.zH:=by rw [p.pg];exact hn
 obtain ⟨n1,n2,n3,n4,n5,n6⟩:=qZ p.vv.cm.sv p.vv.cm.rest qA;have h0:=n4.2 p.wG;refine ⟨?_,p.as (p.vv.as n2 n1 n3) n2 (nA p.vv.cm.sv p.vv.cm.rest p.ub qA),λm' oN=>?_,n2.lg.fin⟩
 ·have:=n5 h0;generalize (c.yg no).1=y at *;obtain ⟨x,b⟩:=y;simp only at h0 this;rw [h0,this];rfl
 ·unfold Ca.data;rw [n2.pg (false,m') (fK.2 (by rw [p.pg];exact oN))]
end
theorem MN {un fr pd:Nat} {d:Dk} (h4:4<=fr/\fr<=32) (hu:1<=un/\un<=16) (f:d.Vd un) (ok:(Ca.new d (Lg.new pd (5+un) 200 1 0 1) fr 3 un).ok) :
 Pl un 0 0 (Ca.new d (Lg.new pd (5+un) 200 1 0 1) fr 3 un) (Ro.new un) (λ_=>[]) (λ_=>[]):=by
 obtain ⟨v,u,_,_⟩:=Sk h4 hu f ok;exact ⟨v,f.wG,u,Nat.le_refl _,rfl,rfl,rfl⟩
theorem kG:∀ a b:List UInt8,a.length=b.length->v9 (zd a) (zd b)=some (decide (a=b))
 | [],[],_=>rfl
 | [],_ :: _,h=>by simp at h
 | _ :: _,[],h=>by simp at h
 | x :: a,y :: b,h=>by
  have ih:=kG a b (by simpa using h);have e1:v9 (zd (x :: a)) (zd (y :: b))=v9 (.int .u8 x.toNat :: zd a) (.int .u8 y.toNat :: zd b):=rfl;rw [e1];simp only [v9,wW,if_true,ih];by_cases q:x=y
  ·subst q;simp
  ·have:((x.toNat:Int) == (y.toNat:Int))=false:=beq_eq_false_iff_ne.2 λw=>q (UInt8.toNat_inj.1 O_);simp [this,q]
theorem z1n {a b:Vn} (ha:a.body.length=64) (hb:b.body.length=64):wW (uC a) (uC b)=some (decide (a=b)):=by
 obtain ⟨t,x⟩:=a;obtain ⟨t',x'⟩:=b;have e1:wW (.agg (zd x)) (.agg (zd x'))=some (decide (x=x')):=kG x x' (by simp at ha hb;omega);have e2:wW (.int .u32 (t:Nat)) (.int .u32 (t':Nat))=some ((t:Int) == (t':Int)):=wT.kY;have e3:v9 [.agg (zd x)] [.agg (zd x')]=some (decide (x=x')&&true):=wT.xP e1 wT.qX;show v9 [.int .u32 (t:Nat),.agg (zd x)] [.int .u32 (t':Nat),.agg (zd x')]=_;rw [wT.xP e2 e3];congr 1;rw [Bool.eq_iff_iff];simp only [Bool.and_true,Bool.and_eq_true,beq_iff_eq,decide_eq_true_eq,Vn.mk.injEq];exact ⟨λh=>⟨O_,h.2⟩,λh=>⟨O_,h.2⟩⟩
theorem z2Q {a b:Vn} (ha:a.body.length=64) (hb:b.body.length=64) (c:Bool):zi Pg .neq 78 (uC a) (uC b) c=some (.bool (!(decide (a=b)))):=by
 have h1:zi Pg .neq 78 (uC a) (uC b) c=if kT Pg 78 (uC a) (uC b) c=true then (WH Pg 78 (uC a) (uC b)).map (λb=>.bool (!b)) else none:=rfl
 have h2:kT Pg 78 (uC a) (uC b) c=true:=K_;have h3:yz Pg 20 78=true:=K_;rw [h1,h2,if_pos rfl];unfold WH;rw [h3,if_pos rfl,Uf ha,Uf hb,z1n ha hb];rfl
theorem SC {h:AH} {sv:V} {l:List Vn} (b:nD 78 h sv (l.map uC)):zr Pg h .len [65] [sv]=some (.int .i64 l.length,h):=by
 obtain ⟨a,ea⟩:=b.shape;rw [List.length_map] at ea;rw [ea];exact wa K_
section
variable {h0:AH} {p:Nat} {n:cp} {f:ZO} {c:Ca}
theorem nD.get {e:TypeId} {h:AH} {x:V} {xs:List V} (b:nD e h x xs) {i:Nat} {w:V} (hi:xs[i]?=some w):∃ r,x=.y8 (some (⟨r,.row e,[]⟩,0)) xs.length/\h.m r=some (.cells true (.row e) (.agg xs)):=by
 rcases b with ⟨rfl,rfl⟩ | ⟨r,h1,h2,h3⟩
 ·cases hi
 ·exact ⟨r,h2,h3⟩
theorem Ay {Q:yO->AH->Prop} {h:AH} {lv wv:V} {l ws:List Vn} (bl:nD 78 h lv (l.map uC)) (bw:nD 78 h wv (ws.map uC)) (hl:∀ d∈l,d.body.length=64) (hw:∀ d∈ws,d.body.length=64) (hlen:l.length=ws.length) (h31:l.length<=1000000) (k:Q (.ret (.bool (decide (l=ws)))) h) :
 ∀ (j i m:Nat),i+j=l.length->j<m->l.take i=ws.take i->De Q m wv lv (.int .i64 (l.length:Nat)) (.int .i64 (i:Nat)) h
 | j,i,0,e,hm,_=>by omega
 | 0,i,m+1,e,hm,ht=>by
  obtain rfl:i=l.length:=O_;rw [Q8];refine yD O_ ?_;apply yZ;refine sm (HF ..) ?_;rw [List.take_length,hlen,List.take_length] at ht;rw [decide_eq_true ht] at k;exact k
 | j+1,i,m+1,e,hm,ht=>by
  have il:i<l.length:=O_;have iw:i<ws.length:=O_;rw [Q8];refine xH O_ ?_;apply xz;refine sm (F5 ..) ?_;have gl:(l.map uC)[i]?=some (uC l[i]):=by rw [List.getElem?_map,List.getElem?_eq_getElem il];rfl
  have gw:(ws.map uC)[i]?=some (uC ws[i]):=by rw [List.getElem?_map,List.getElem?_eq_getElem iw];rfl
  obtain ⟨r1,rfl,f1⟩:=bl.get gl;obtain ⟨r2,rfl,f2⟩:=bw.get gw;have ml:(l.map uC).length=l.length:=List.length_map ..;have mw:(ws.map uC).length=ws.length:=List.length_map ..;refine zg (xW _ K_ O_ O_) ?_;refine zY f1 K_ (w:=uC l[i]) (by rw [show 0+((i:Nat):Int).toNat=i by omega];exact v7 gl) ?_;refine zg (xW _ K_ O_ O_) ?_;refine zY f2 K_ (w:=uC ws[i]) (by rw [show 0+((i:Nat):Int).toNat=i by omega];exact v7 gw) ?_;refine zg (z2Q (hl _ (List.getElem_mem il)) (hw _ (List.getElem_mem iw)) _) ?_;by_cases q:l[i]=ws[i]
  ·rw [decide_eq_true q];apply yZ;refine sm (I4 ..) ?_;refine zE O_ O_ ?_;refine z7.of ?_;have:=Ay bl bw hl hw hlen h31 k j (i+1) m O_ O_ (by rw [List.take_add_one,List.take_add_one,ht,List.getElem?_eq_getElem il,List.getElem?_eq_getElem iw,q]);rw [show ((i+1:Nat):Int)=(i:Int)+1 by omega] at this;exact this
  ·rw [decide_eq_false q];apply xz;rw [decide_eq_false (λw=>q (by subst w;rfl))] at k;exact k
theorem z9r {h:AH} {no m:Nat} {wv:V} {ws:List Vn} (k:BsA h p n f c) (own:vx h) (vk:no<65536) (bw:nD 78 h wv (ws.map uC)) (hw:∀ d∈ws,d.body.length=64) (dp:c.deep (m+1)) (hm:m<=1000000) (he:(c.yg no).1.2=0->Ca.ends no m (c.yg no).2 (c.yg no).1.1)
 (hb:∀ d∈(c.sP no m).1.2,d.body.length=64) (hlen:(c.sP no m).1.2.length<=1000000) (hwl:ws.length<=1000000) :
 z0q 25 [fD p,.int .u16 no,wv] h (xj TW h (.bool (decide ((c.sP no m).1.1=0/\(c.sP no m).1.2=ws))) λh'=>BsA h' p n f (c.sP no m).2):=by
 refine C25 _ _ _ _ _ ?_;refine yf (jY k) ?_;refine (z64 k.ca own vk dp hm he).mono λe h2 q=>?_;obtain ⟨sv,rfl,q2,Vi,b2⟩:=q;dsimp only [zS];have k2:=k.pQ q2 rfl Vi;have bw2:=bw.zA q2 rfl;generalize c.sP no m=y at *;obtain ⟨⟨e,l⟩,c2⟩:=y;simp only at b2 k2 hb hlen ⊢;apply wj;apply wl;by_cases h0:e=0
 case neg =>
  rw [decide_eq_false (λq=>h0 q.1)];refine xe h0 ?_;apply tA;refine sm (z3I ..) ?_;apply wc;refine sm (Gk ..) ?_;apply xz;exact ⟨rfl,q2,k2⟩
 have bl:=(b2 h0).jg;refine yx h0 ?_;apply xc;refine ze (SC bl) ?_;refine ze (SC bw2) ?_;by_cases hl:l.length=ws.length
 ·refine yx O_ ?_;refine sm (z3I ..) ?_;apply yi;refine sm (Gk ..) ?_;apply yZ;refine sm (E9 ..) ?_;refine ze (SC bl) ?_;refine ⟨l.length+1,z7.of ?_⟩;refine Ay bl bw2 hb hw hl hlen ⟨?_,q2,k2⟩ l.length 0 _ O_ O_ rfl;have:decide (e=0/\l=ws)=decide (l=ws):=by simp [h0]
  rw [this]
 ·rw [decide_eq_false (λq=>hl (by rw [q.2]))];refine xe O_ ?_;refine sm (z3I ..) ?_;apply yi;refine sm (Gk ..) ?_;apply xz;exact ⟨rfl,q2,k2⟩
end
def mt:List UInt8:=7 :: xM 63
theorem KU {n:Nat} (h:n<=66):uO n Un.z=true:=by
 unfold uO xv;rw [if_neg (by intro q;rcases q with q | q;omega;cases q)];have e0:mr Un.z.zt=none:=rfl;have e1:yG Un.z.zt=16:=rfl;have e2:Un.z.zt.length=0:=rfl;rw [e0,e1,e2];simp only;rw [if_neg O_];rfl
theorem L4 {h:AH} (own:vx h):z0q 27 [] h (λe _=>e=.ret (.bool true)):=by
 refine C27 _ _ ?_;refine (P9 (un:=2) (fr:=4) D_ D_ own).mono λe h1 q=>?_;obtain ⟨pd,pb,n,r,d,rfl,q1,e1,df,bs1,NJ⟩:=q;dsimp only [zS];have ze6:=q1.own own;have p0:=MN (pd:=pd) D_ D_ df bs1.ca.ok;have d1:=(Sk (pd:=pd) D_ D_ df bs1.ca.ok).2.2.1 1 D_;generalize Ca.new d (Lg.new pd (5+2) 200 1 0 1) 4 3 2=c0 at *;refine z6 (show zm (.yX [pU pd,fD pb]) 0=some (pU pd) from rfl) ?_;refine z6 (show zm (.yX [pU pd,fD pb]) 1=some (fD pb) from rfl) ?_;refine z6 (N1 pb) ?_;apply xc;refine z6 (show zD Pg 73 [(0,.int .u8 7)]=some (.agg (zd mt)) from K_) ?_;have hl7:mt.length=64:=D_;rcases p0.install O_ O_ (no:=1) (ts:=5) (body:=mt) O_ D_ hl7 with ⟨r1,r2,⟨ZG,r3⟩,r4,r5,r6,_⟩ | ⟨r1,r2,r3,r4,r5,r6⟩
 case inr =>
  exfalso;rcases r6 with ⟨_,q⟩ | ⟨_,_,q⟩
  ·rw [d1] at q;exact absurd q D_
  ·have:=q Un.z (by simp [Ro.new]);rw [KU (rR (by rw [d1];exact kW.body))] at this;cases this
 refine xN (cR (no:=1) (ts:=5) bs1 NJ ze6 D_ D_ hl7 (p0.deep O_)) λh2 q2 ⟨bs2,Vh⟩=>?_;have Y5:=q2.own ze6;generalize c0.wd (Ro.new 2) 1 5 mt=y at *;refine yx r1 ?_;refine sm (z30 ..) ?_;apply yi;refine sm (Q5 ..) ?_;apply yZ;refine sm (Bk ..) ?_;refine z6 (show zD Pg 73 [(0,.int .u8 7)]=some (.agg (zd mt)) from K_) ?_;refine z6 (show zD Pg 78 [(0,.int .u32 5),(1,.agg (zd mt))]=some (uC ⟨5,mt⟩) from KD (d:=⟨5,mt⟩) hl7) ?_;refine z6 (show zD Pg 78 []=some (uC ⟨0,xM 64⟩) from K_) ?_;refine zq (K3 (t:=65) (e:=78) K_ z3i (Uf (d:=⟨5,mt⟩) hl7) (Uf (d:=⟨0,xM 64⟩) (zI 64))) λh3 u3=>?_;have n3:=u3.next;have q3:zb [] h2 h3:=zb.new u3;have bs3:=bs2.zA q3 rfl;have rb3:=Vh.zA q3 rfl;have A4:=q3.own Y5;have hvs:NR (λ_=>[]) 1 ({ c0.data 1 with zZ:=0 } :: []) 1=[Dt.z]:=by rw [qF,d1];rfl
 obtain ⟨v1,v2,v3,v4,v5,v6⟩:=r3.z9u (no:=1) (m:=2) O_ (by rw [hvs];decide);rw [hvs] at v2 v3 v6;have w:nD 78 h3 (.y8 (some (⟨h2.next,.row 78,[]⟩,0)) 2) (([⟨5,mt⟩,⟨0,xM 64⟩]:List Vn).map uC):=.inr ⟨h2.next,O_,rfl,u3.at_⟩;refine xN (z9r (no:=1) (m:=2) (ws:=[⟨5,mt⟩,⟨0,xM 64⟩]) bs3 A4 D_ w (λd hd=>?_) (r3.deep O_) O_ v1 v5 (by have:_<=1+1:=v6;omega) D_) λh4 q4 bs4=>?_
 ·rcases List.mem_cons.1 hd with rfl | hd
  ·exact hl7
  ·rw [List.mem_singleton] at hd;subst hd;exact zI 64
 have rb4:=rb3.zA q4 rfl;have e2:decide ((y.2.1.sP 1 2).1.1=0/\(y.2.1.sP 1 2).1.2=[⟨5,mt⟩,⟨0,xM 64⟩])=true:=by
  rw [v2,r4];exact decide_eq_true ⟨rfl,rfl⟩
 rw [e2];apply sE;refine yf (TD bs4) ?_;refine yf (z3g rb4) ?_;have ht:mP y.2.2.us=1:=by
  have:y.2.2.jK=(Ro.new 2).jK+1:=r6;exact this.trans D_
 rw [ht];refine xn rfl ?_;refine sm (Kb ..) ?_;apply wc;refine sm (Gf ..) ?_;rfl
end Go.Proofs.YtdbgifdfdhhjcaaGreat.Sh
namespace Go.Ab
section
open Go Go.RowKit
variable {P:Program}
theorem VN {f:FuncId} {args:List V} {v:V} {h hs:AH} (hn:hs.next=h.next) (tI:∀ n o,hs.m n=some o->h.m n=some o) (ho:tK (λn=>(hs.m n).isSome) v=true)
 (c:za P f args hs (zO v hs)):za P f args h (zO v h):=by
 intro B ι W vs F r;let Bs:wy:=⟨λb=>b<W.heap.size/\∀ n o L,hs.m n=some o->o.w8=true->ι n=some L->b≠L.wC,W⟩
 have Fs:ye P Bs ι hs W :=
  ⟨λn o hm=>F.obj n o (tI n o hm),λn hk=>F.fresh n O_,λn n' o o' L L' a b=>F.apart n n' o o' L L' (tI n o a) (tI n' o' b),
   λn o L hm mv hL hb=>hb.2 n o L hm mv hL rfl,λb hb=>⟨rfl,hb.1⟩,rfl,rfl,rfl,Nat.le_refl _⟩
 refine (c Bs ι W vs Fs r).mono ?_;rintro e w' ⟨ι',h',ae,h1,h2,h3,h4⟩;cases ae with
 | panic _=>exact h4.elim
 | ret u =>
  obtain ⟨hu,hh⟩:=h4;rw [hh] at h2;subst hu;have Ff:=Fs.forget h2 h1 λn _=>rfl;refine ⟨ι,h,.ret u,zw.le_refl _,?_,?_,rfl,rfl⟩
  ·refine ⟨λn o hm=>?_,F.fresh,F.apart,F.free,λb hb=>?_,h2.os.trans F.os,h2.tape.trans F.tape,h2.output.trans F.output,Nat.le_trans F.size h2.size⟩
   ·cases hsn:hs.m n with
    | some o' =>
     have:=tI n o' hsn;rw [hm] at this;cases this;exact Ff.obj n o hsn
    | none =>
     obtain ⟨L,hL,hr⟩:=F.obj n o hm;refine ⟨L,hL,vR (zw.le_refl _) (h2.frame L.wC ⟨uA hr,λn2 o2 L2 a b d q=>?_⟩).1 hr⟩;have wO:n2≠n:=λq=>by rw [q,hsn] at a;cases a
     exact F.apart n2 n o2 o L2 L (tI n2 o2 a) hm wO b d hL q.symm
   ·obtain ⟨g1,g2⟩:=F.frame b hb;obtain ⟨k1,k2⟩:=h2.frame b ⟨g2,λn o L a mv hL q=>F.free n o L (tI n o a) mv hL (q▸hb)⟩;exact ⟨k1.trans g1,k2⟩
  ·cases e with
   | returned x =>
    refine Q9 (λn hn=>?_) h1 ho h3;obtain ⟨o,hm⟩:=Option.isSome_iff_exists.1 hn;obtain ⟨L,hL,_⟩:=Fs.obj n o hm;exact ⟨L,hL⟩
   | panicked c=>exact h3.elim
   | outgrown=>exact h3.elim
def AH.yK (h:AH):AH:=⟨h.next,λn=>match h.m n with
 | some o=>if o.w8 then some o else none
 | none=>none⟩
theorem sM {h:AH} {n:Nat} {o:AO} (hm:h.yK.m n=some o):o.w8=true/\h.m n=some o:=by
 simp only [AH.yK] at hm;split at hm
 ·rename_i o' ho;split at hm
  ·rename_i hw;cases hm;exact ⟨hw,ho⟩
  ·cases hm
 ·cases hm
theorem sD {h:AH} {n:Nat} {o:AO} (hm:h.m n=some o) (mv:o.w8=true):h.yK.m n=some o:=by
 simp only [AH.yK,hm,mv,if_true]
end
section
open Go Go.RowKit
variable {P:Program}
def AH.over (hs h:AH):AH:=⟨hs.next,λn=>match hs.m n with
 | some o=>some o
 | none=>if n<hs.next then (match h.m n with
  | some o=>if o.w8 then none else some o
  | none=>none) else none⟩
theorem KS {hs h:AH} {n:Nat} {o:AO} (hm:hs.m n=some o):(hs.over h).m n=some o:=by
 simp only [AH.over,hm]
theorem oW {hs h:AH} {n:Nat} {o:AO} (hm:(hs.over h).m n=some o):hs.m n=some o\/(hs.m n=none/\h.m n=some o/\o.w8=false):=by
 simp only [AH.over] at hm;split at hm
 ·rename_i o' ho;cases hm;exact .inl ho
 ·rename_i ho;split at hm
  ·split at hm
   ·rename_i o' rD;split at hm
    ·cases hm
    ·rename_i hw;cases hm;exact .inr ⟨ho,rD,by simpa using hw⟩
   ·cases hm
  ·cases hm
theorem L9 {hs h:AH} {n:Nat} {o:AO} (hn:n<hs.next) (hs0:hs.m n=none) (hm:h.m n=some o) (ho:o.w8=false):(hs.over h).m n=some o:=by
 simp only [AH.over,hs0,hm,hn,if_true,ho,Bool.false_eq_true,if_false]
theorem nI {f:FuncId} {args:List V} {h:AH} {Q:yO->AH->Prop} (c:za P f args h.yK Q):za P f args h λe h'=>∃ hs,Q e hs/\h'=hs.over h:=by
 intro B ι W vs F r;have tI:∀ n o,h.yK.m n=some o->h.m n=some o:=λn o q=>(sM q).2;let Bs:wy:=⟨λb=>b<W.heap.size/\∀ n o L,h.yK.m n=some o->o.w8=true->ι n=some L->b≠L.wC,W⟩
 have Fs:ye P Bs ι h.yK W :=
  ⟨λn o hm=>F.obj n o (tI n o hm),λn hk=>F.fresh n hk,λn n' o o' L L' a b=>F.apart n n' o o' L L' (tI n o a) (tI n' o' b),
   λn o L hm mv hL hb=>hb.2 n o L hm mv hL rfl,λb hb=>⟨rfl,hb.1⟩,rfl,rfl,rfl,Nat.le_refl _⟩
 refine (c Bs ι W vs Fs r).mono ?_;rintro e w' ⟨ι',hs,ae,h1,h2,h3,h4⟩
 -- the blocks BR are not one's own
 have ext:∀ n o,h.m n=some o->o.w8=false->∃ L,ι n=some L/\Bs.F L.wC/\pG P ι' w' L o:=λn o hm ho=>by
  obtain ⟨L,hL,hr⟩:=F.obj n o hm;have hb:Bs.F L.wC:=⟨uA hr,λn2 o2 L2 a b d q=>by
   have wO:n2≠n:=λe=>by subst e;rw [tI _ _ a] at hm;cases hm;rw [ho] at b;cases b
   exact F.apart n2 n o2 o L2 L (tI n2 o2 a) hm wO b d hL q.symm⟩
  exact ⟨L,hL,hb,vR h1 (h2.frame L.wC hb).1 hr⟩
 refine ⟨ι',hs.over h,ae,h1,?_,h3,hs,h4,rfl⟩;refine ⟨λn o hm=>?_,h2.fresh,λn n' o o' L L' a b wO mv hL X6=>?_,λn o L hm mv hL hb=>?_,λb hb=>?_,h2.os.trans F.os,h2.tape.trans F.tape,h2.output.trans F.output,Nat.le_trans F.size h2.size⟩
 ·rcases oW hm with q | ⟨q1,q2,q3⟩
  ·exact h2.obj n o q
  ·obtain ⟨L,hL,_,hr⟩:=ext n o q2 q3;exact ⟨L,h1 _ _ hL,hr⟩
 ·have ha:hs.m n=some o:=by
   rcases oW a with q | ⟨_,_,q3⟩
   ·exact q
   ·rw [q3] at mv;cases mv
  rcases oW b with q | ⟨q1,q2,q3⟩
  ·exact h2.apart n n' o o' L L' ha q wO mv hL X6
  ·obtain ⟨L2,hL2,hb,_⟩:=ext n' o' q2 q3;rw [h1 _ _ hL2] at X6;cases X6;exact λe=>h2.free n o L ha mv hL (e▸hb)
 ·have ha:hs.m n=some o:=by
   rcases oW hm with q | ⟨_,_,q3⟩
   ·exact q
   ·rw [q3] at mv;cases mv
  refine h2.free n o L ha mv hL ?_;obtain ⟨g1,g2⟩:=F.frame _ hb;exact ⟨g2,λn2 o2 L2 a how2 hL2 q=>F.free n2 o2 L2 (tI n2 o2 a) how2 hL2 (q▸hb)⟩
 ·obtain ⟨g1,g2⟩:=F.frame b hb;obtain ⟨k1,k2⟩:=h2.frame b ⟨g2,λn o L a mv hL q=>F.free n o L (tI n o a) mv hL (q▸hb)⟩;exact ⟨k1.trans g1,k2⟩
theorem ud (h:AH):vx h.yK:=λn o hm=>(sM hm).1
theorem XO {h:AH} {n:Nat} {o:AO} (hm:h.m n=some o) (ho:o.w8=false):h.yK.m n=none:=by
 simp only [AH.yK,hm,ho,Bool.false_eq_true,if_false]
theorem mf {hs h:AH} (ho:vx hs):(hs.over h).yK=hs:=by
 have:(λn=>match (hs.over h).m n with | some o=>if o.w8 then some o else none | none=>none)=hs.m:=by
  funext n;cases hm:hs.m n with
  | some o=>simp only [KS hm,ho n o hm,if_true]
  | none =>
   cases hv:(hs.over h).m n with
   | none=>rfl
   | some o =>
    rcases oW hv with q | ⟨_,_,q3⟩
    ·rw [hm] at q;cases q
    ·simp only [q3,Bool.false_eq_true,if_false]
 show AH.mk hs.next (λn=>match (hs.over h).m n with | some o=>if o.w8 then some o else none | none=>none)=hs;rw [this]
theorem Td.part {h h':AH} {o:AO} (u:Td h h' o) (ho:o.w8=true:=by rfl):Td h.yK h'.yK o :=
 ⟨u.next,sD u.at_ ho,λk hk=>by simp only [AH.yK,u.other k hk],λk hk=>by simp only [AH.yK,u.Zu k hk]⟩
theorem lD.part {h h':AH} {n:Nat} {o:AO} (u:lD h h' n o) (ho:o.w8=true:=by rfl):lD h.yK h'.yK n o :=
 ⟨u.next,sD u.at_ ho,λk hk=>by simp only [AH.yK,u.other k hk]⟩
end
section
open Go Go.RowKit
variable {P:Program}
structure wX (T:xr) (h h':AH):Prop where
 own:zb T h.yK h'.yK
 not:∀ n o,n<h.next->h.m n=some o->o.w8=false->h'.m n=some o
 only:∀ n o,h'.m n=some o->o.w8=false->h.m n=some o
 next:h.next<=h'.next
theorem wX.refl (T:xr) (h:AH):wX T h h:=⟨zb.refl _ _,λ_ _ _ a _=>a,λ_ _ a _=>a,Nat.le_refl _⟩
theorem wX.trans {T:xr} {h h1 h2:AH} (a:wX T h h1) (b:wX T h1 h2):wX T h h2 :=
 ⟨a.own.trans b.own,λn o hn hm ho=>b.not n o (Nat.lt_of_lt_of_le hn a.next) (a.not n o hn hm ho) ho,λn o hm ho=>a.only n o (b.only n o hm ho) ho,Nat.le_trans a.next b.next⟩
theorem wX.sub {T T':xr} {h h':AH} (a:wX T h h') (hT:(T.all λt=>T'.contains t)=true):wX T' h h':=⟨a.own.sub hT,a.not,a.only,a.next⟩
theorem wX.new {T:xr} {h h':AH} {o:AO} (u:Td h h' o) (ho:o.w8=true:=by rfl):wX T h h' :=
 ⟨zb.new (u.part ho) ho,λn o' hn hm _=>(u.other n hn).trans hm,(λn o' hm hw=>by
  rcases u.mem hm with q | q
  ·exact q
  ·subst q;rw [ho] at hw;cases hw),by have:=u.next;omega⟩
theorem wX.vP {T:xr} {h h':AH} {n:Nat} {o o0:AO} (u:lD h h' n o) (hm:h.m n=some o0) (ht:o.tag=o0.tag) (hT:T.contains o0.tag=true) (M1:o0.w8=true:=by rfl) (ho:o.w8=true:=by rfl):wX T h h' :=
 ⟨zb.vP (u.part ho) (sD hm M1) ht hT ho,λk o' hk oN hw=>by
  have:k≠n:=λe=>by subst e;rw [hm] at oN;cases oN;rw [M1] at hw;cases hw
  exact (u.other k this).trans oN,λk o' oN hw=>by
  by_cases e:k=n
  ·subst e;rw [u.at_] at oN;cases oN;rw [ho] at hw;cases hw
  ·rw [u.other k e] at oN;exact oN,by have:=u.next;omega⟩
theorem wX.ya {T:xr} {h h1 h2:AH} {n:Nat} {o:AO} (a:wX T h h1) (u:lD h1 h2 n o) (hn:h.next<=n) (ho:o.w8=true:=by rfl):wX T h h2 :=
 ⟨a.own.ya (u.part ho) hn ho,λk o' hk oN hw=>by
  have:=a.next;exact (u.other k O_).trans (a.not k o' hk oN hw),λk o' oN hw=>by
  by_cases e:k=n
  ·subst e;rw [u.at_] at oN;cases oN;rw [ho] at hw;cases hw
  ·rw [u.other k e] at oN;exact a.only k o' oN hw,by have:=a.next;have:=u.next;omega⟩
theorem Ag.part {h h':AH} {n:Nat} {o:AO} (u:Ag h h' n o) (ho:o.w8=true:=by rfl):Ag h.yK h'.yK n o :=
 ⟨u.next,sD u.at_ ho,by simp only [AH.yK,u.gone],λk hk wO=>by simp only [AH.yK,u.other k hk wO],λk hk=>by
  rcases u.Zu k hk with e | e
  ·left;simp only [AH.yK,e]
  ·right;simp only [AH.yK,e]⟩
theorem wX.rep {T:xr} {h h':AH} {n:Nat} {o o0:AO} (u:Ag h h' n o) (hm:h.m n=some o0) (hT:T.contains o0.tag=true) (M1:o0.w8=true:=by rfl) (ho:o.w8=true:=by rfl):wX T h h' :=
 ⟨zb.rep (u.part ho) (sD hm M1) hT ho,λk o' hk oN hw=>by
  have:k≠n:=λe=>by subst e;rw [hm] at oN;cases oN;rw [M1] at hw;cases hw
  exact (u.other k hk this).trans oN,λk o' oN hw=>by
  rcases Nat.lt_trichotomy k h.next with c | c | c
  ·by_cases e:k=n
   ·subst e;rw [u.gone] at oN;cases oN
   ·rw [u.other k c e] at oN;exact oN
  ·subst c;rw [u.at_] at oN;cases oN;rw [ho] at hw;cases hw
  ·rcases u.Zu k c with e | e
   ·rw [e] at oN;cases oN
   ·rw [e] at oN;exact oN,by have:=u.next;omega⟩
theorem bN {T:xr} {h hs:AH} (q1:zb T h.yK hs):wX T h (hs.over h):=by
 have ho:=q1.own (ud h);refine ⟨by rw [mf ho];exact q1,λn o hl hm hw=>L9 (by have:h.next<=hs.next:=q1.next;omega) (q1.none_ n hl (XO hm hw)) hm hw,λn o hm hw=>?_,q1.next⟩;rcases oW hm with q | ⟨_,q,_⟩
 ·rw [ho n o q] at hw;cases hw
 ·exact q
theorem QR {f:FuncId} {args:List V} {h:AH} {T:xr} {v:V} {R:AH->Prop} {K X:V->AH->Prop} (c:za P f args h.yK (xj T h.yK v R)) (k:∀ h',wX T h h'->R h'.yK->K v h'):za P f args h (zS K X) :=
 (nI c).mono λe h' q=>by
  obtain ⟨hs,⟨rfl,q1,q2⟩,rfl⟩:=q;exact k _ (bN q1) (by rw [mf (q1.own (ud h))];exact q2)
theorem z3e {f:FuncId} {args:List V} {h:AH} {T:xr} {Q:yO->AH->Prop} {K X:V->AH->Prop} (c:za P f args h.yK Q) (hq:∀ e hs,Q e hs->zb T h.yK hs) (k:∀ e h',wX T h h'->Q e h'.yK->∃ v,e=.ret v/\K v h'):za P f args h (zS K X) :=
 (nI c).mono λe h' q=>by
  obtain ⟨hs,q1,rfl⟩:=q;have q2:=hq e hs q1;obtain ⟨v,rfl,q3⟩:=k e _ (bN q2) (by rw [mf (q2.own (ud h))];exact q1);exact q3
theorem AC {f:FuncId} {args:List V} {h:AH} {v:V} (ho:tK (λn=>(h.yK.m n).isSome) v=true) (c:za P f args h.yK (zO v h.yK)):za P f args h (zO v h) :=
 VN (hs:=h.yK) rfl (λn o q=>(sM q).2) ho c
end
end Go.Ab
namespace Go.Proofs.YtdbgifdfdhhjcaaGreat.Sh
open Go Go.Ab Go.RowKit
open Go.Proofs.YtdbgifdfdhhjcaaGreat.Ru (Pg yL)
set_option maxRecDepth 10000
set_option linter.unusedSectionVars false
def XY (e:TypeId) (h:AH) (x:V) (xs:List V):Prop :=
 (x=.y8 none 0/\xs=[])\/∃ n,n<h.next/\x=.y8 (some (⟨n,.row e,[]⟩,0)) xs.length/\h.m n=some (.cells false (.row e) (.agg xs))
theorem XY.zA {T:xr} {e:TypeId} {h h':AH} {x:V} {xs:List V} (b:XY e h x xs) (q:wX T h h'):XY e h' x xs:=by
 rcases b with ⟨rfl,rfl⟩ | ⟨n,h1,rfl,h3⟩
 ·exact .inl ⟨rfl,rfl⟩
 ·exact .inr ⟨n,by have:=q.next;omega,rfl,q.not n _ h1 h3 rfl⟩
theorem XY.shape {e:TypeId} {h:AH} {x:V} {xs:List V} (b:XY e h x xs):∃ a,x=.y8 a xs.length:=by
 rcases b with ⟨rfl,rfl⟩ | ⟨n,h1,rfl,h3⟩ <;> exact ⟨_,rfl⟩
theorem nD.full {e:TypeId} {h:AH} {x:V} {xs:List V} (b:nD e h.yK x xs):nD e h x xs:=by
 rcases b with ⟨rfl,rfl⟩ | ⟨n,h1,rfl,h3⟩
 ·exact .inl ⟨rfl,rfl⟩
 ·exact .inr ⟨n,h1,rfl,(sM h3).2⟩
open Go.Proofs.YtdbgifdfdhhjcaaGreat.wT (Rc qO)
set_option maxHeartbeats 4000000
section
variable {p:Nat} {n:cp} {f:ZO} {c:Ca}
end
structure Lf (h:AH) (x:V) (l:List (List UInt8)) (pb:Nat) (n:cp) (r k a:Nat) (c:Ca) (ro:Ro) (vs:eS) (ps:eY):Prop where
 arg:XY 73 h x (l.map λb=>.agg (zd b))
 bs:BsA h.yK pb n (Zj 1) c
 rb:jy h.yK n.pr r ro
 pl:Pl 1 k a c ro vs ps
section
variable {h:AH} {x:V} {l:List (List UInt8)} {pb r k a:Nat} {n:cp} {c:Ca} {ro:Ro} {vs:eS} {ps:eY}
theorem Lf.zA {T:xr} {h':AH} (s:Lf h x l pb n r k a c ro vs ps) (q:wX T h h') (h1:dC TBs T=true) (h2:dC TRo T=true):Lf h' x l pb n r k a c ro vs ps :=
 ⟨s.arg.zA q,s.bs.zA q.own h1,s.rb.zA q.own h2,s.pl⟩
theorem Lf.log (s:Lf h x l pb n r k a c ro vs ps):z0q 31 [fD pb] h (zO (fM n.c.l) h):=by
 obtain ⟨lv,ka⟩:=s.bs.ca;obtain ⟨sv,pv,kl⟩:=ka.lg;exact AC (by show (h.yK.m n.c.l).isSome=true;rw [kl.log];rfl) (z9D s.bs)
theorem UH (h:AH) {K X:V->AH->Prop} (q:∀ h',K (.bool true) h'):z0q 27 [] h (zS K X) :=
 (nI (L4 (ud h))).mono λe h' g=>by
  obtain ⟨hs,rfl,rfl⟩:=g;exact q _
abbrev QT:yO->AH->Prop:=λe _=>e=.ret (.bool true)
end
theorem wX.z4U {T:xr} {h h1 h2:AH} {n:Nat} {o:AO} (a:wX T h h1) (u:Ag h1 h2 n o) (hn:h.next<=n) (ho:o.w8=true:=by rfl):wX T h h2 :=
 ⟨zb.z4U a.own (u.part ho) hn ho,λk o' hk oN hw=>by
  have:=a.next;exact (u.other k O_ O_).trans (a.not k o' hk oN hw),λk o' oN hw=>by
  rcases Nat.lt_trichotomy k h1.next with c | c | c
  ·by_cases e:k=n
   ·subst e;rw [u.gone] at oN;cases oN
   ·rw [u.other k c e] at oN;exact a.only k o' oN hw
  ·subst c;rw [u.at_] at oN;cases oN;rw [ho] at hw;cases hw
  ·rcases u.Zu k c with e | e
   ·rw [e] at oN;cases oN
   ·rw [e] at oN;exact a.only k o' oN hw,by have:=a.next;have:=u.next;omega⟩
theorem Sx.elems {e:TypeId} {h:AH} {x:V} {xs:List V} (b:Sx e h x xs):xY Pg h e x=some xs:=by
 rcases b with ⟨rfl,rfl⟩ | ⟨n,pre,post,h1,rfl,h3⟩
 ·rfl
 ·simp [xY,h3,Go.Ab.rowAt,yF]
theorem Sx.full {e:TypeId} {h:AH} {x:V} {xs:List V} (b:Sx e h.yK x xs):Sx e h x xs:=by
 rcases b with ⟨rfl,rfl⟩ | ⟨n,pre,post,h1,rfl,h3⟩
 ·exact .inl ⟨rfl,rfl⟩
 ·exact .inr ⟨n,pre,post,h1,rfl,(sM h3).2⟩
theorem z0V {h0 h:AH} {e t xt:TypeId} {r:Nat} {xs ws:List V} {y:V} (q:wX [] h0 h) (hr:h0.next<=r) (hrn:r<h.next) (hm:h.m r=some (.cells true (.row e) (.agg xs))) (hc:gI Pg t xt e=true) (hy:xY Pg h e y=some ws) (hw:ws≠[]) (hl:(xs.length+ws.length)*Pg.bytesOf e<=140737488355328) :
 ∃ v h',zr Pg h .append [t,xt] [.y8 (some (⟨r,.row e,[]⟩,0)) xs.length,y]=some (v,h')/\nD e h'.yK v (xs++ws)/\wX [] h0 h'/\∃ n,v=.y8 (some (⟨n,.row e,[]⟩,0)) (xs.length+ws.length):=by
 obtain ⟨h',e1,u⟩:=To (h:=h) (i:=0) (n:=xs.length) hc hrn hm O_ hy hw hl;refine ⟨_,h',e1,.inr ⟨h.next,by show _<h'.next;rw [u.next];omega,by rw [List.length_append],?_⟩,wX.z4U q u hr,h.next,rfl⟩;have:=u.at_;rw [List.drop_zero,List.take_of_length_le O_] at this;exact sD this rfl
structure Wt (h:AH) (nx:Nat) (ws:Nat->List Vn):Prop where
 cell:∃ sv:List V,sv.length=3/\h.m nx=some (.cells true (.one 66) (.agg sv))/\∀ i,i<3->∃ s,sv[i]?=some s/\nD 78 h.yK s ((ws i).map uC)
 lt:nx<h.next
 ok:∀ i,i<3->(ws i).length<=1000/\∀ d∈ws i,d.body.length=64
abbrev wtP (n:Nat):V:=.ptr (some ⟨n,.one 66,[]⟩)
theorem Wt.zA {T:xr} {h h':AH} {nx:Nat} {ws:Nat->List Vn} (w:Wt h nx ws) (q:wX T h h') (h1:T.contains (1,78,0)=false) (h2:T.contains (0,66,0)=false):Wt h' nx ws:=by
 obtain ⟨⟨sv,e1,e2,e3⟩,lt,ok⟩:=w;refine ⟨⟨sv,e1,(sM (q.own.at (sD e2 rfl) lt h2)).2,λi hi=>?_⟩,by have:=q.next;omega,ok⟩;obtain ⟨s,s1,s2⟩:=e3 i hi;exact ⟨s,s1,s2.zA q.own h1⟩
theorem Wt.get {h:AH} {nx:Nat} {ws:Nat->List Vn} (w:Wt h nx ws) {i:Nat} (hi:i<3):∃ sv s,h.m nx=some (.cells true (.one 66) (.agg sv))/\yF (.agg sv) [i]=some s/\nD 78 h.yK s ((ws i).map uC)/\sv.length=3:=by
 obtain ⟨⟨sv,e1,e2,e3⟩,lt,ok⟩:=w;obtain ⟨s,s1,s2⟩:=e3 i hi;exact ⟨sv,s,e2,v7 s1,s2,e1⟩
theorem shRw {e:TypeId} {h:AH} {x:V} {xs:List V} (b:nD e h x xs):zf Pg x 65=true:=by
 obtain ⟨a,rfl⟩:=b.shape
 kernel_rfl
theorem Wt.put {h0 h:AH} {nx:Nat} {ws:Nat->List Vn} {i:Nat} {v:V} {l:List Vn} (w:Wt h0 nx ws) (q:wX [] h0 h) (hi:i<3) (b:nD 78 h.yK v (l.map uC)) (hl:l.length<=1000) (hb:∀ d∈l,d.body.length=64) {kd:IntKind} {K:V->AH->Prop}
 (k:∀ h',wX [(0,66,0)] h0 h'->Wt h' nx (NR ws i l)->(∀ q o,q≠nx->q<h0.next->h0.m q=some o->o.w8=true->h'.m q=some o)->K yw h'):z0 (z03 (zy Pg 66 (wtP nx) (.int kd (i:Nat))) h) λa h1=>z0 (zh Pg h1 65 a v) K:=by
 have w1:=w.zA q rfl rfl;obtain ⟨⟨sv,e1,e2,e3⟩,lt,ok⟩:=w1;refine z6 (pF 3 65 K_ O_ O_) ?_;rw [show ((i:Nat):Int).toNat=i by omega];obtain ⟨s,s1,s2⟩:=e3 i hi;have hsv:i<sv.length:=O_;have hc:my Pg (.one 66) [i] 65=true:=by
  rcases (show i=0\/i=1\/i=2 from O_) with rfl | rfl | rfl <;> kernel_rfl
 refine zq (zM (p:=[i]) e2 hc (v7 s1) (shRw b) (WO hsv)) λh2 u2=>?_;have q2:wX [(0,66,0)] h h2:=wX.vP u2 e2 rfl rfl;have n2:=q2.next;refine k h2 ((q.sub rfl).trans q2) ⟨⟨sv.set i v,by rw [List.length_set];exact e1,u2.at_,λj hj=>?_⟩,O_,λj hj=>?_⟩ (λp o hp hlt hm ho=>(u2.other p hp).trans (sM (q.own.at (sD hm ho) hlt rfl)).2)
 ·by_cases e:j=i
  ·subst e;rw [qF];exact ⟨v,List.getElem?_set_self hsv,b.zA q2.own rfl⟩
  ·rw [pI _ _ e];obtain ⟨s',t1,t2⟩:=e3 j hj;exact ⟨s',by rw [List.getElem?_set,if_neg λw=>e w.symm];exact t1,t2.zA q2.own rfl⟩
 ·by_cases e:j=i
  ·subst e;rw [qF];exact ⟨hl,hb⟩
  ·rw [pI _ _ e];exact ok j hj
theorem Wt.putO {h0 h:AH} {nx:Nat} {ws:Nat->List Vn} {i:Nat} {v:V} {l:List Vn} (w:Wt h0 nx ws) (q:wX [] h0 h) (hi:i<3) (b:nD 78 h.yK v (l.map uC)) (hl:l.length<=1000) (hb:∀ d∈l,d.body.length=64) {kd:IntKind} {K:V->AH->Prop}
 (k:∀ h',wX [(0,66,0)] h0 h'->Wt h' nx (NR ws i l)->(∀ q o,q≠nx->q<h0.next->h0.m q=some o->o.w8=true->h'.m q=some o)->K yw h'):zc (zj (z03 (zy Pg 66 (wtP nx) (.int kd (i:Nat))) h)) λa=>z0 (zh Pg h 65 a v) K:=by
 have:=Wt.put (K:=K) (kd:=kd) w q hi b hl hb k;refine zg (pF 3 65 K_ O_ O_) ?_;rw [pF 3 65 K_ O_ O_] at this;exact this
structure Sp where
 no:Nat
 more:Nat
 body:List UInt8
 pop:Bool
structure Sp.ok (s:Sp):Prop where
 no:s.no<256
 more:s.more<256
 body:s.body.length=64
def spV (s:Sp):V:=.agg [.int .u8 s.no,.int .u8 s.more,.agg (zd s.body),.bool s.pop]
theorem z5W {s:Sp} (o:s.ok):zf Pg (spV s) 75=true:=by
 have:zf Pg (spV s) 75=(zf Pg (.agg (zd s.body)) 73&&true):=K_;rw [this,vO o.body];rfl
theorem zSp:xk Pg 75=some (spV ⟨0,0,xM 64,false⟩):=K_
def Ca.has (c:Ca) (vs:eS) (i:Nat):List Vn:=(c.data i).vn :: (vs i).map Dt.vn
structure Lp (h:AH) (x:V) (l:List Sp) (pb:Nat) (n:cp) (r un k a:Nat) (c:Ca) (ro:Ro) (vs:eS) (ps:eY):Prop where
 arg:XY 75 h x (l.map spV)
 bs:BsA h.yK pb n (Zj un) c
 rb:jy h.yK n.pr r ro
 pl:Pl un k a c ro vs ps
structure Nb (i:Nat) (c:Ca) (ro:Ro) (vs:eS):Prop where
 ts:∀ m,m<3->(c.data m).ts<=300*i
 len:∀ m,m<3->(vs m).length<=i
 jK:ro.jK=(vs 0).length+(vs 1).length+(vs 2).length
theorem Nb.mono {i j:Nat} {c c':Ca} {ro:Ro} {vs:eS} (b:Nb i c ro vs) (h:i<=j) (hd:∀ m,m<3->c'.data m=c.data m):Nb j c' ro vs :=
 ⟨λm hm=>by rw [hd m hm];have:=b.ts m hm;omega,λm hm=>by have:=b.len m hm;omega,b.jK⟩
theorem zd7 {vs:eS} {no:Nat} (hn:no<3) (l:List Dt):(NR vs no l 0).length+(NR vs no l 1).length+(NR vs no l 2).length+(vs no).length=(vs 0).length+(vs 1).length+(vs 2).length+l.length:=by
 rcases (show no=0\/no=1\/no=2 from O_) with rfl | rfl | rfl
 ·rw [qF,pI _ _ D_,pI _ _ D_];omega
 ·rw [qF,pI _ _ D_,pI _ _ D_];omega
 ·rw [qF,pI _ _ D_,pI _ _ D_];omega
theorem Wt.eq {h:AH} {nx:Nat} {ws ws':Nat->List Vn} (w:Wt h nx ws) (e:∀ i,i<3->ws' i=ws i):Wt h nx ws':=by
 obtain ⟨⟨sv,e1,e2,e3⟩,lt,ok⟩:=w;exact ⟨⟨sv,e1,e2,λi hi=>by rw [e i hi];exact e3 i hi⟩,lt,λi hi=>by rw [e i hi];exact ok i hi⟩
theorem B6 {un k a:Nat} {c:Ca} {ro:Ro} {vs:eS} {ps:eY} (p:Pl un k a c ro vs ps) {m:Nat} (hm:m<3):∀ d∈c.has vs m,d.body.length=64:=by
 obtain ⟨_,e,_,_,s6,_⟩:=p.z9u (no:=m) (m:=(vs m).length+1) hm O_;have:(c.sP m ((vs m).length+1)).1.2=c.has vs m:=by rw [e];rfl
 rw [<- this];exact s6
section
variable {x:V} {l:List Sp} {pb r un:Nat} {n:cp} {Q:yO->AH->Prop}
theorem Lp.zA {T:xr} {h h':AH} {k a:Nat} {c:Ca} {ro:Ro} {vs:eS} {ps:eY} (s:Lp h x l pb n r un k a c ro vs ps) (q:wX T h h') (h1:dC TBs T=true) (h2:dC TRo T=true):Lp h' x l pb n r un k a c ro vs ps :=
 ⟨s.arg.zA q,s.bs.zA q.own h1,s.rb.zA q.own h2,s.pl⟩
abbrev z2Y (Q:yO->AH->Prop) (x:V) (l:List Sp) (pb:Nat) (n:cp) (r un nx n6 i:Nat) (m:Nat):Prop :=
 ∀ (h:AH) (k a:Nat) (c:Ca) (ro:Ro) (vs:eS) (ps:eY),Lp h x l pb n r un k a c ro vs ps->k<=4*(i+1)->a<=2*(i+1)->Nb (i+1) c ro vs->Wt h nx (c.has vs)->(∃ w,h.m n6=some (.cells true (.one 66) w))->n6<h.next->n6≠nx ->
  zcc Q m (fD pb) x (wtP n6) (wtP nx) (.int .i64 (i:Nat)) h
theorem popL {h:AH} {k a i m nx n6 no:Nat} {c:Ca} {ro:Ro} {vs:eS} {ps:eY} (nxt:z2Y Q x l pb n r un nx n6 i m) (s:Lp h x l pb n r un k a c ro vs ps) (hk:k<=4*i) (ha:a<=2*i) (hi:i<40) (nb:Nb i c ro vs) (w:Wt h nx (c.has vs)) (f6:∃ w,h.m n6=some (.cells true (.one 66) w)) (l6:n6<h.next) (h6:n6≠nx) (hn:no<3)
 {sv:V} (bv:nD 78 h.yK sv ((c.has vs no).map uC)) {K X:V->AH->Prop} (hK:∀ e h',K (.int .i64 e) h'↔z0 (zr Pg h' .len [65] [sv]) (λv49 h50 =>
  z0 (z03 (zi Pg .eql 3 v49 (V.int .i64 1) true) h50) λv51 h52 =>
  zP v51 (
  z0 (z03 (zi Pg .neq 36 (.int .i64 e) (V.int .i64 1) true) h52) λv53 h54 =>
  zP v53 (
  z0 (z9 Pg h54 66 (wtP nx)) λv55 h56 =>
  z0 (zh Pg h56 66 (wtP n6) v55) λ_ h58 =>
  yq (zX Pg [(6,wtP n6),(7,(V.bool false))] h58 R24) λv=>Q (.ret v) h58) (
  z7 (z91 Q m (fD pb) x (wtP n6) (wtP nx) (.int .i64 (i:Nat)) h54))) (
  z7 (zaX Q m (fD pb) x (wtP n6) (wtP nx) (.int .i64 (i:Nat)) (.int .u16 (no:Nat)) sv (.int .i64 e) h52)))) :
 z0q 30 [fD pb,.int .u16 (no:Nat)] h (zS K X):=by
 have pp:=s.pl.pop O_ O_ (no:=no) hn;refine QR (popP (no:=no) s.bs s.rb (ud h) O_ (s.pl.deep O_)) λh1 q1 b1=>?_;have n1:=q1.next;rw [hK];have bv1:=bv.zA q1.own rfl;have Jn:zr Pg h1 .len [65] [sv]=some (.int .i64 ((c.has vs no).length:Nat),h1):=SC (nD.full bv1);have f6':∃ w,h1.m n6=some (.cells true (.one 66) w):=by
  obtain ⟨w,hw⟩:=f6;exact ⟨w,(sM (q1.own.at (sD hw rfl) l6 rfl)).2⟩
 have w1:=w.zA q1 rfl rfl;refine ze Jn ?_;generalize hy:c.lM ro no=y at *;rcases pp with ⟨t1,t2,t3,t4,t5⟩ | ⟨v,l',t1,t2,⟨ZG,t3⟩,t4,t5,t6,t7⟩
 ·have e1:(c.has vs no).length=1:=by unfold Ca.has;rw [t1];rfl
  rw [e1];refine xn rfl ?_;apply xz;refine yx t2 ?_;apply yZ;refine z7.of (z8 (Bh ..) (z7.of ?_));refine nxt h1 (k+4) (a+2) y.2.1 y.2.2 vs ps ⟨s.arg.zA q1,b1.1,b1.2,t3⟩ O_ O_ (by rw [t4];exact nb.mono O_ t5) (w1.eq λj hj=>?_) f6' O_ h6;unfold Ca.has;rw [t5 j hj]
 ·have e1:(c.has vs no).length=l'.length+2:=by unfold Ca.has;rw [t1];simp
  rw [e1];refine yB O_ ?_;apply yZ;refine sm (Wh ..) ?_;refine xn t2 ?_;apply xz;refine zq (Ax (t:=65) (e:=78) (len:=0) (ps:=[]) (l:=[]) K_ z3i rfl) λh2 u2=>?_;have n2:=u2.next;have q2:wX [] h1 h2:=wX.new u2;have bv2:=nD.full (bv1.zA q2.own rfl);obtain ⟨c1,v2,c2,c3⟩:=(bv2.cut (t:=65) (k:=1) K_ (by unfold Ca.has;simp) (by rw [List.length_map,e1];omega))
  refine z6 (c2 h2) ?_;have hws:((c.has vs no).map uC).drop 1=((v :: l').map Dt.vn).map uC:=by unfold Ca.has;rw [t1];rfl
  rw [hws] at c3;obtain ⟨v3,h3,g1,g2,g3,_⟩:=z0V (t:=65) (xt:=65) (xs:=[]) (ws:=((v :: l').map Dt.vn).map uC) (y:=v2) q2 O_ O_ u2.at_ zbP c3.elems S_ (z2y (by have:=nb.len no hn;rw [t1] at this;simp at this ⊢;omega));refine ze g1 ?_;rw [List.nil_append] at g2;have z9y:=B6 s.pl hn;refine Wt.put (l:=(v :: l').map Dt.vn) w1 g3 hn g2 (by have:=nb.len no hn;rw [t1] at this;simp at this ⊢;omega) (λd hd=>z9y d (by unfold Ca.has;rw [t1];exact List.mem_cons_of_mem _ hd)) λh4 q4 w4 o4=>?_;refine z7.of (z8 (GI ..) (z7.of ?_));have n4:=q4.next;have s1:Lp h1 x l pb n r un (k+4) (a+2) y.2.1 y.2.2 (NR vs no l') ZG:=⟨s.arg.zA q1,b1.1,b1.2,t3⟩
  have s4:=s1.zA q4 rfl rfl;refine nxt h4 (k+4) (a+2) y.2.1 y.2.2 (NR vs no l') ZG s4 O_ O_ ⟨λm' hm=>?_,λm' hm=>?_,?_⟩ (w4.eq λj hj=>?_) ?_ O_ h6
  ·by_cases e:m'=no
   ·subst e;have nF:(y.2.1.data m').ts=v.ts:=congrArg Vn.ts t4;have:=nb.ts m' hm;omega
   ·rw [t6 m' e hm];have:=nb.ts m' hm;omega
  ·have:=nb.len m' hm;by_cases e:m'=no
   ·subst e;rw [qF];rw [t1] at this;simp at this;omega
   ·rw [pI _ _ e];omega
  ·have nF:=zd7 (vs:=vs) hn l';have h2':=nb.jK;rw [t1] at nF;simp only [List.length_cons] at nF;omega
  ·unfold Ca.has;by_cases e:j=no
   ·subst e;rw [qF,qF,t4];rfl
   ·rw [pI _ _ e,pI _ _ e,t6 j e hj]
  ·obtain ⟨w0,hw⟩:=f6';exact ⟨w0,o4 n6 _ h6 O_ hw rfl⟩
end
section
variable {x:V} {l:List Sp} {pb r un:Nat} {n:cp} {Q:yO->AH->Prop}
theorem z2d {h:AH} {k a i m nx n6 nb no:Nat} {c:Ca} {ro:Ro} {vs:eS} {ps:eY} {st:Sp} (so:st.ok) (nxt:z2Y Q x l pb n r un nx n6 i m) (s:Lp h x l pb n r un k a c ro vs ps) (hk:k<=4*i) (ha:a<=2*i) (hi:i<40) (kn:Nb i c ro vs) (w:Wt h nx (c.has vs)) (f6:∃ w,h.m n6=some (.cells true (.one 66) w)) (l6:n6<h.next) (h6:n6≠nx) (hn:no<3)
 (lb:nb<h.next) (fb:h.m nb=some (.cells true (.one 75) (spV st))) {sv:V} (bv:nD 78 h.yK sv ((c.has vs no).map uC)) :
 z6T Q m (fD pb) x (wtP n6) (wtP nx) (.int .i64 (i:Nat)) (.ptr (some ⟨nb,.one 75,[]⟩)) (.int .u16 (no:Nat)) sv h:=by
 have BL:((c.has vs no).map uC)[0]?=some (uC (c.data no).vn):=rfl;have kt:=kn.ts no hn;have smo:=so.more;rw [Dr];obtain ⟨rr,hrr,frr⟩:=(nD.full bv).get BL;have hlen:((c.has vs no).map uC).length=(vs no).length+1:=by unfold Ca.has;simp
 have ia:∀ (kd:IntKind),zy Pg 65 sv (.int kd 0)=some (.ptr (some ⟨rr,.row 78,[0+(0:Int).toNat]⟩)):=λkd=>by
  rw [hrr];exact xW _ K_ O_ O_
 have gts:yF (.agg ((c.has vs no).map uC)) ([0+(0:Int).toNat]++[0])=some (.int .u32 (c.data no).ts):=rfl;have s1v:yF (spV st) ([]++[1])=some (.int .u8 st.more):=rfl;have s2v:yF (spV st) ([]++[2])=some (.agg (zd st.body)):=rfl;refine zg (ia _) ?_;refine ym K_ ?_;refine zY frr K_ gts ?_;refine ym K_ ?_;refine zY fb K_ s1v ?_;refine zg (t8 E_ (XN O_ O_)) ?_;refine zg (vu (XN O_ O_)) ?_;rw [show (((c.data no).ts:Nat):Int)+((st.more:Nat):Int)=(((c.data no).ts+st.more:Nat):Int) by omega];refine ym K_ ?_;refine zY fb K_ s2v ?_;have ins:=s.pl.install O_ O_ (no:=no) (ts:=(c.data no).ts+st.more) (body:=st.body) hn O_ so.body;refine QR (cR (no:=no) (ts:=(c.data no).ts+st.more) s.bs s.rb (ud h) O_ O_ so.body (s.pl.deep O_)) λh1 q1 b1=>?_;have n1:=q1.next;generalize hy:c.wd ro no ((c.data no).ts+st.more) st.body=y at *;have fb1:h1.m nb=some (.cells true (.one 75) (spV st)):=(sM (q1.own.at (sD fb rfl) lb rfl)).2;have bv1:=bv.zA q1.own rfl;have w1:=w.zA q1 rfl rfl;have f6':∃ w,h1.m n6=some (.cells true (.one 66) w):=by
  obtain ⟨w,hw⟩:=f6;exact ⟨w,(sM (q1.own.at (sD hw rfl) l6 rfl)).2⟩
 refine zx K_ ?_;refine zl fb1 K_ s1v ?_
 -- Ja was refused
 have same:∀ (hp:Pl un (k+4) a y.2.1 ro vs ps) (he:y.2.2=ro) (hd:∀ m,m<3->y.2.1.data m=c.data m),zcc Q m (fD pb) x (wtP n6) (wtP nx) (.int .i64 (i:Nat)) h1:=λhp he hd=>by
  refine nxt h1 (k+4) a y.2.1 ro vs ps ⟨s.arg.zA q1,b1.1,by rw [<- he];exact b1.2,hp⟩ O_ O_ (kn.mono O_ hd) (w1.eq λj hj=>?_) f6' O_ h6;unfold Ca.has;rw [hd j hj]
 by_cases hm:st.more=0
 ·refine xn O_ ?_;apply xz;rcases ins with ⟨r1,r2,_⟩ | ⟨r1,r2,r3,r4,r5,r6⟩
  ·omega
  ·rcases r6 with ⟨g1,_⟩ | ⟨_,g2,_⟩
   ·refine yx g1 ?_;apply yZ;refine z7.of (z8 (FM ..) (z7.of ?_));exact same r2 r3 r4
   ·omega
 ·refine yB O_ ?_;apply yZ;refine sm (GM ..) ?_;rcases ins with ⟨r1,r2,⟨ZG,r3⟩,r4,r5,r6,_⟩ | ⟨r1,r2,r3,r4,r5,r6⟩
  ·refine xn r1 ?_;apply xz;obtain ⟨rr1,hrr1,frr1⟩:=(nD.full bv1).get BL;have ia1:∀ (kd:IntKind),zy Pg 65 sv (.int kd 0)=some (.ptr (some ⟨rr1,.row 78,[0+(0:Int).toNat]⟩)):=λkd=>by
    rw [hrr1];exact xW _ K_ O_ O_
   refine zg (ia1 _) ?_;refine ym K_ ?_;refine zY frr1 K_ gts ?_;refine ym K_ ?_;refine zY fb1 K_ s1v ?_;refine zg (t8 E_ (XN O_ O_)) ?_;refine zg (vu (XN O_ O_)) ?_;rw [show (((c.data no).ts:Nat):Int)+((st.more:Nat):Int)=(((c.data no).ts+st.more:Nat):Int) by omega];refine ym K_ ?_;refine zY fb1 K_ s2v ?_;have hb:=so.body;refine zg (show zD Pg 78 [(0,.int .u32 (((c.data no).ts+st.more:Nat):Int)),(1,.agg (zd st.body))]=some (uC ⟨(c.data no).ts+st.more,st.body⟩) from KD (d:=⟨(c.data no).ts+st.more,st.body⟩) hb) ?_;refine zq (mV (t:=65) (e:=78) K_ z3i (Uf (d:=⟨(c.data no).ts+st.more,st.body⟩) hb)) λh2 u2=>?_;have n2:=u2.next;have q2:wX [] h1 h2:=wX.new u2;have J3:xY Pg h2 78 sv=some ((c.has vs no).map uC):=(nD.full (bv1.zA q2.own rfl)).elems;obtain ⟨v3,h3,g1,g2,g3,_⟩:=z0V (t:=65) (xt:=65) (xs:=[uC ⟨(c.data no).ts+st.more,st.body⟩]) q2 O_ O_ u2.at_ zbP J3 (by unfold Ca.has;simp) (z2y (by have:=kn.len no hn;rw [hlen];simp;omega));refine ze g1 ?_;have z9y:=B6 s.pl hn;have hgl:((⟨(c.data no).ts+st.more,st.body⟩ :: c.has vs no:List Vn)).length<=1000:=by
    have:=kn.len no hn;unfold Ca.has;simp;omega
   have hgb:∀ d∈(⟨(c.data no).ts+st.more,st.body⟩ :: c.has vs no:List Vn),d.body.length=64:=λd hd=>by
    rcases List.mem_cons.1 hd with rfl | q
    ·exact hb
    ·exact z9y d q
   refine Wt.putO (l:=⟨(c.data no).ts+st.more,st.body⟩ :: c.has vs no) w1 g3 hn g2 hgl hgb λh4 q4 w4 o4=>?_;have n4:=q4.next;have s1:Lp h1 x l pb n r un (k+4) (a+2) y.2.1 y.2.2 _ ZG:=⟨s.arg.zA q1,b1.1,b1.2,r3⟩
   refine z7.of ?_;refine nxt h4 (k+4) (a+2) y.2.1 y.2.2 _ ZG (s1.zA q4 rfl rfl) O_ O_ ⟨λm' oN=>?_,λm' oN=>?_,?_⟩ (w4.eq λj hj=>?_) ?_ O_ h6
   ·by_cases e:m'=no
    ·subst e;have nF:(y.2.1.data m').ts=(c.data m').ts+st.more:=congrArg Vn.ts r4;omega
    ·rw [r5 m' e oN];have:=kn.ts m' oN;omega
   ·have:=kn.len m' oN;by_cases e:m'=no
    ·subst e;rw [qF,List.length_cons];omega
    ·rw [pI _ _ e];omega
   ·have key:∀ L:List Dt,L.length=(vs no).length+1->y.2.2.jK=(NR vs no L 0).length+(NR vs no L 1).length+(NR vs no L 2).length:=λL hL=>by
     have nF:=zd7 (vs:=vs) hn L;have h2':=kn.jK;omega
    exact key _ rfl
   ·unfold Ca.has;by_cases e:j=no
    ·subst e;rw [qF,qF,r4];rfl
    ·rw [pI _ _ e,pI _ _ e,r5 j e hj]
   ·obtain ⟨w0,hw⟩:=f6';exact ⟨w0,o4 n6 _ h6 O_ hw rfl⟩
  ·rcases r6 with ⟨_,g2⟩ | ⟨g1,_,_⟩
   ·omega
   ·rw [g1];refine yB D_ ?_;apply yZ;refine yx rfl ?_;apply yZ;exact z7.of (same r2 r3 r4)
end
def z0H (h:AH) (sv:List V) (ws:Nat->List Vn):Prop:=sv.length=3/\∀ i,i<3->∃ s,sv[i]?=some s/\nD 78 h.yK s ((ws i).map uC)
theorem zdA {sv:List V} (h:sv.length=3):∃ a b c,sv=[a,b,c]:=by
 match sv,h with
 | [a,b,c],_=>exact ⟨a,b,c,rfl⟩
theorem z0H.sh {h:AH} {sv:List V} {ws:Nat->List Vn} (r:z0H h sv ws):zf Pg (.agg sv) 66=true:=by
 obtain ⟨h1,h2⟩:=r;obtain ⟨a,b,c,rfl⟩:=zdA h1;obtain ⟨s0,t0,u0⟩:=h2 0 D_;obtain ⟨s1,t1,u1⟩:=h2 1 D_;obtain ⟨s2,t2,u2⟩:=h2 2 D_;cases t0;cases t1;cases t2;obtain ⟨a0,e0⟩:=u0.shape;obtain ⟨a1,e1⟩:=u1.shape;obtain ⟨a2,e2⟩:=u2.shape;rw [e0,e1,e2]
 kernel_rfl
theorem z0H.zA {T:xr} {h h':AH} {sv:List V} {ws:Nat->List Vn} (r:z0H h sv ws) (q:wX T h h') (h1:T.contains (1,78,0)=false):z0H h' sv ws:=by
 obtain ⟨e1,e2⟩:=r;refine ⟨e1,λi hi=>?_⟩;obtain ⟨s,s1,s2⟩:=e2 i hi;exact ⟨s,s1,s2.zA q.own h1⟩
section
variable {x:V} {l:List Sp} {pb r un:Nat} {n:cp} {Q:yO->AH->Prop}
abbrev z4S (Q:yO->AH->Prop) (x:V) (l:List Sp) (pb:Nat) (n:cp) (r un:Nat):Prop :=
 ∀ (h:AH) (k a:Nat) (c:Ca) (ro:Ro) (vs:eS) (ps:eY) (sv:List V),Lp h x l pb n r un k a c ro vs ps->k<=160->a<=80->Nb 40 c ro vs->z0H h sv (c.has vs)->Q (.ret (.yX [.agg sv,.bool true])) h
theorem zdX {h:AH} (a:XY 75 h x (l.map spV)):zr Pg h .len [63] [x]=some (.int .i64 l.length,h):=by
 obtain ⟨a,ea⟩:=a.shape;rw [List.length_map] at ea;rw [ea];exact wa K_
theorem z4z {h:AH} {k a nx n6:Nat} {c:Ca} {ro:Ro} {vs:eS} {ps:eY} (fin:z4S Q x l pb n r un) (s:Lp h x l pb n r un k a c ro vs ps) (hk:k<=160) (ha:a<=80) (nb:Nb 40 c ro vs) (w:Wt h nx (c.has vs)) (f6:∃ w,h.m n6=some (.cells true (.one 66) w)) (l6:n6<h.next) (h6:n6≠nx) :
 z9l Q (wtP n6) (wtP nx) h:=by
 obtain ⟨⟨sv,e1,e2,e3⟩,lt,ok⟩:=w;have r3:z0H h sv (c.has vs):=⟨e1,e3⟩
 obtain ⟨w6,f6⟩:=f6;rw [B8];refine zl e2 K_ (w:=.agg sv) rfl ?_;refine zq (zM (p:=[]) f6 K_ rfl r3.sh rfl) λh2 u2=>?_;have q2:wX [(0,66,0)] h h2:=wX.vP u2 f6 rfl rfl;have e4:=zR (P:=Pg) (t:=66) (p:=[]) u2.at_ K_ (w:=.agg sv) rfl;simp only [z9] at e4;have e5:=(zK e4).1;refine yr (show zX Pg _ _ R24=some [.agg sv,.bool true] by simp [R24,zX,zJ.get,e5]) ?_;exact fin h2 k a c ro vs ps sv (s.zA q2 rfl rfl) hk ha nb (r3.zA q2 rfl)
theorem z2A (fin:z4S Q x l pb n r un) (hl:∀ s∈l,s.ok) {nx n6:Nat}:∀ (j i m:Nat) (h:AH) (k a:Nat) (c:Ca) (ro:Ro) (vs:eS) (ps:eY),i+j=40->j<m->Lp h x l pb n r un k a c ro vs ps->k<=4*i->a<=2*i->Nb i c ro vs->Wt h nx (c.has vs)->(∃ w,h.m n6=some (.cells true (.one 66) w))->n6<h.next->n6≠nx ->
 Bo Q m (fD pb) x (wtP n6) (wtP nx) (.int .i64 (i:Nat)) h
 | j,i,0,h,k,a,c,ro,vs,ps,e,hm,_,_,_,_,_,_,_,_=>by omega
 | j,i,m+1,h,k,a,c,ro,vs,ps,e,hm,s,hk,ha,nb,w,f6,l6,h6=>by
  have done:z9l Q (wtP n6) (wtP nx) h:=z4z fin s O_ O_ (nb.mono O_ λ_ _=>rfl) w f6 l6 h6;rw [PP];refine ze (zdX s.arg) ?_;by_cases hil:i<l.length
  case neg =>
   refine yD O_ ?_;apply jo;refine sm (Sa ..) ?_;apply yi;refine sm (Ep ..) ?_;apply yZ;exact z7.of done
  refine xH O_ ?_;apply sE;by_cases h40:i<40
  case neg =>
   refine yD O_ ?_;refine sm (Sa ..) ?_;apply wc;refine sm (Ep ..) ?_;apply yZ;exact z7.of done
  refine xH O_ ?_;refine sm (Sa ..) ?_;apply wc;refine sm (Ep ..) ?_;apply xz;obtain ⟨j',rfl⟩:∃ j',j=j'+1:=⟨j-1,O_⟩
  have nxt:z2Y Q x l pb n r un nx n6 i m:=λh' k' a' c' Y6 uz ZG s' JH ha' nb' w' f6' l6' h6'=>by
   rw [CV];refine zE O_ O_ ?_;rw [show ((i:Nat):Int)+1=((i+1:Nat):Int) by omega];exact z7.of (z2A fin hl j' (i+1) m h' k' a' c' Y6 uz ZG O_ O_ s' JH ha' nb' w' f6' l6' h6')
  refine sm (Gi ..) ?_;obtain ⟨rx,hrx,fx⟩:∃ rx,x=.y8 (some (⟨rx,.row 75,[]⟩,0)) l.length/\h.m rx=some (.cells false (.row 75) (.agg (l.map spV))):=by
   rcases s.arg with ⟨_,q⟩ | ⟨rx,_,q1,q2⟩
   ·have:l=[]:=List.map_eq_nil_iff.1 q;rw [this] at hil;exact absurd hil S_
   ·rw [List.length_map] at q1;exact ⟨rx,q1,q2⟩
  have hg:(l.map spV)[i]?=some (spV l[i]):=by rw [List.getElem?_map,List.getElem?_eq_getElem hil];rfl
  refine z6 (v:=.ptr (some ⟨rx,.row 75,[0+((i:Nat):Int).toNat]⟩)) (by rw [hrx];exact xW _ K_ O_ O_) ?_;refine zl fx K_ (w:=spV l[i]) (by rw [show 0+((i:Nat):Int).toNat=i by omega];exact v7 hg) ?_;have so:=hl _ (List.getElem_mem hil);generalize l[i]=st at so ⊢;have sno:=so.no;refine zq (yA zSp (z5W ⟨D_,D_,zI 64⟩)) λh1 u1=>?_;have n1:=u1.next;have q1:wX [] h h1:=wX.new u1;refine zq (zM (p:=[]) u1.at_ K_ rfl (z5W so) rfl) λh2 u2=>?_;have n2:=u2.next;have q2:wX [] h h2:=q1.ya u2 (Nat.le_refl _);have fb:=u2.at_;have s2:=s.zA q2 rfl rfl;have w2:=w.zA q2 rfl rfl;have f6':∃ w,h2.m n6=some (.cells true (.one 66) w):=by
   obtain ⟨w,hw⟩:=f6;exact ⟨w,(sM (q2.own.at (sD hw rfl) l6 rfl)).2⟩
  have g0:yF (spV st) ([]++[0])=some (.int .u8 st.no):=rfl;have g3:yF (spV st) ([]++[3])=some (.bool st.pop):=rfl;refine zx K_ ?_;refine zl fb K_ g0 ?_;refine z6 (Uz O_) ?_;rw [show ((st.no:Nat):Int).tmod 3=((st.no%3:Nat):Int) from rfl];have vk:st.no%3<3:=Nat.mod_lt _ D_;refine kh E_ O_ O_ ?_;obtain ⟨sv,sl,e2,e3,e4,e5⟩:=w2.get vk;refine z6 (pF 3 65 K_ O_ O_) ?_;rw [show ((st.no%3:Nat):Int).toNat=st.no%3 by omega];have hc:my Pg (.one 66) [st.no%3] 65=true:=by
   rcases (show st.no%3=0\/st.no%3=1\/st.no%3=2 from O_) with q | q | q <;> rw [q] <;> kernel_rfl
  refine zl e2 hc e3 ?_;refine zx K_ ?_;refine zl fb K_ g3 ?_;cases hp:st.pop with
  | true =>
   apply xz;exact popL nxt s2 hk ha h40 nb w2 f6' O_ h6 vk e4 (λe h'=>Iff.rfl)
  | false =>
   apply yZ;refine z7.of ?_;exact z2d so nxt s2 hk ha h40 nb w2 f6' O_ h6 vk O_ fb e4
theorem z1X (fin:z4S Q x l pb n r un) (hl:∀ s∈l,s.ok) {nx n6:Nat} {c:Ca} {ro:Ro} (hd:∀ m,m<3->c.data m=Dt.z) (ht:ro.jK=0):∀ (j i m:Nat) (h:AH) (ws:Nat->List Vn),i+j=3->j<m->Lp h x l pb n r un 0 0 c ro (λ_=>[]) (λ_=>[])->Wt h nx ws->(∀ q,q<i->ws q=[⟨0,xM 64⟩])->(∃ w,h.m n6=some (.cells true (.one 66) w))->n6<h.next->n6≠nx ->
 Fe Q m (fD pb) x (wtP n6) (wtP nx) (.int .i64 (i:Nat)) h
 | j,i,0,h,ws,e,hm,_,_,_,_,_,_=>by omega
 | 0,i,m+1,h,ws,e,hm,s,w,hw,f6,l6,h6=>by
  obtain rfl:i=3:=O_;rw [P7];refine yD O_ ?_;apply yZ;refine sm (EL ..) ?_;refine ⟨41,z7.of ?_⟩;refine z2A fin hl 40 0 41 h 0 0 c ro _ _ O_ O_ s O_ O_ ⟨λm hm=>by rw [hd m hm];exact Nat.le_refl _,λm hm=>Nat.le_refl _,ht⟩ (w.eq λi hi=>?_) f6 l6 h6;rw [hw i hi];unfold Ca.has;rw [hd i hi];rfl
 | j+1,i,m+1,h,ws,e,hm,s,w,hw,f6,l6,h6=>by
  have hi:i<3:=O_;rw [P7];refine xH O_ ?_;apply xz;refine sm (Eb ..) ?_;refine z6 (show zD Pg 78 []=some (uC ⟨0,xM 64⟩) from K_) ?_;refine zq (mV (t:=65) (e:=78) K_ z3i (Uf (d:=⟨0,xM 64⟩) (zI 64))) λh2 u2=>?_;have n2:=u2.next;have q2:wX [] h h2:=wX.new u2;have b2:nD 78 h2.yK (.y8 (some (⟨h.next,.row 78,[]⟩,0)) 1) (([⟨0,xM 64⟩]:List Vn).map uC):=.inr ⟨h.next,by show _<h2.next;omega,rfl,sD u2.at_ rfl⟩;refine Wt.put (l:=[⟨0,xM 64⟩]) w q2 hi b2 D_ (λd hd=>by rw [List.mem_singleton] at hd;subst hd;exact zI 64) λh4 q4 w4 o4=>?_;have n4:=q4.next;obtain ⟨w0,hw0⟩:=f6;refine sm (Ek ..) ?_;refine zE O_ O_ ?_;rw [show ((i:Nat):Int)+1=((i+1:Nat):Int) by omega];refine z7.of (z1X fin hl hd ht j (i+1) m h4 _ O_ O_ (s.zA q4 rfl rfl) w4 (λq hq=>?_) ⟨w0,o4 n6 _ h6 l6 hw0 rfl⟩ O_ h6);by_cases e':q=i
  ·subst e';rw [qF]
  ·rw [pI _ _ e'];exact hw q O_
theorem ze3 {h:AH} {c:Ca} {ro:Ro} {v:V} (fin:z4S Q x l pb n r un) (hl:∀ s∈l,s.ok) (hd:∀ m,m<3->c.data m=Dt.z) (ht:ro.jK=0) (s:Lp h x l pb n r un 0 0 c ro (λ_=>[]) (λ_=>[])):z0q 24 [fD pb,x,v] h Q:=by
 have hz:xk Pg 66=some (.agg [.y8 none 0,.y8 none 0,.y8 none 0]):=K_;refine C24 _ _ _ _ _ ?_;refine zq (yA hz K_) λh1 u1=>?_;have n1:=u1.next;have q1:wX [] h h1:=wX.new u1;refine zq (yA hz K_) λh2 u2=>?_;have n2:=u2.next;have q2:wX [] h1 h2:=wX.new u2;refine ⟨4,z7.of ?_⟩;refine z1X fin hl hd ht 3 0 4 h2 (λ_=>[]) O_ O_ (s.zA (q1.trans q2) rfl rfl) ⟨⟨_,rfl,u2.at_,λi hi=>⟨.y8 none 0,?_,.inl ⟨rfl,rfl⟩⟩⟩,O_,λi hi=>⟨D_,λd hd=>nomatch hd⟩⟩ (λq hq=>by omega) ⟨_,(u2.other _ O_).trans u1.at_⟩ O_ O_;rcases (show i=0\/i=1\/i=2 from O_) with rfl | rfl | rfl <;> rfl
end
section
variable {x:V} {l:List Sp} {pb r un:Nat} {n:cp}
theorem Lp.same {h:AH} {k a no:Nat} {c:Ca} {ro:Ro} {vs:eS} {ps:eY} (s:Lp h x l pb n r un k a c ro vs ps) (hk:k<=20000) (nb:Nb 40 c ro vs) (hn:no<3) {sv:V} (bv:nD 78 h.yK sv ((c.has vs no).map uC)) {K X:V->AH->Prop}
 (q:∀ h' c',wX TW h h'->Lp h' x l pb n r un (k+100) a c' ro vs ps->(∀ m,m<3->c'.data m=c.data m)->K (.bool true) h'):z0q 25 [fD pb,.int .u16 (no:Nat),sv] h (zS K X):=by
 have hlen:=nb.len no hn;obtain ⟨v1,v2,v3,v4,v5,v6⟩:=s.pl.z9u (no:=no) (m:=41) hn O_;have e2:decide ((c.sP no 41).1.1=0/\(c.sP no 41).1.2=c.has vs no)=true:=by
  rw [v2];exact decide_eq_true ⟨rfl,rfl⟩
 have hl2:(c.has vs no).length=(vs no).length+1:=by unfold Ca.has;simp
 refine QR (z9r (no:=no) (m:=41) (ws:=c.has vs no) s.bs (ud h) O_ bv (B6 s.pl hn) (s.pl.deep O_) O_ v1 v5 O_ O_) λh1 q1 b1=>?_;rw [e2];exact q h1 _ q1 ⟨s.arg.zA q1,b1,s.rb.zA q1.own rfl,v3.next (Ca.as.refl _).on v3.vv (v3.ub.mono O_) v3.bl⟩ v4
theorem z2F {c c':Ca} {vs:eS} (h:∀ m,m<3->c'.data m=c.data m):∀ i,i<3->c'.has vs i=c.has vs i:=λi hi=>by
 unfold Ca.has;rw [h i hi]
theorem zem {nw:Nat}:∀ (j i m:Nat) (h:AH) (k a:Nat) (c:Ca) (ro:Ro) (vs:eS) (ps:eY) (t:Nat),i+j=3->j<m->Lp h x l pb n r un k a c ro vs ps->k<=1000+100*i->Nb 40 c ro vs->Wt h nw (c.has vs)->t+(((List.range' i j).map λq=>(vs q).length).sum)=ro.jK->t<=1000 ->
 IW QT m (fD pb) (wtP nw) (.int .i64 (t:Nat)) (.int .i64 (i:Nat)) h
 | j,i,0,h,k,a,c,ro,vs,ps,t,e,hm,_,_,_,_,_,_=>by omega
 | 0,i,m+1,h,k,a,c,ro,vs,ps,t,e,hm,s,hk,nb,w,ht,h31=>by
  have ht:t=ro.jK:=by simpa using ht
  rw [Qm];refine yD O_ ?_;apply yZ;refine sm (D7 ..) ?_;refine yf (AC (by
   obtain ⟨ws,b2,b3,b4⟩:=s.rb.row;show (h.yK.m n.pr).isSome=true;rw [s.rb.room];rfl) (TD s.bs)) ?_
  refine yf (AC rfl (z3g s.rb)) ?_;have hl:mP ro.us=t:=ht.symm;rw [hl];refine xn rfl ?_;apply sE;refine UH h λh5=>?_;refine sm (DS ..) ?_;apply wc;refine sm (EE ..) ?_;rfl
 | j+1,i,m+1,h,k,a,c,ro,vs,ps,t,e,hm,s,hk,nb,w,ht,h31=>by
  have hi:i<3:=O_;have Jn:=nb.len i hi;rw [Qm];refine xH O_ ?_;apply xz;refine sm (Fm ..) ?_;refine kh E_ O_ O_ ?_;obtain ⟨sv,sl,e2,e3,e4,e5⟩:=w.get hi;have hc:my Pg (.one 66) [i] 65=true:=by
   rcases (show i=0\/i=1\/i=2 from O_) with q | q | q <;> rw [q] <;> kernel_rfl
  refine z6 (pF 3 65 K_ O_ O_) ?_;rw [show ((i:Nat):Int).toNat=i by omega];refine zl e2 hc e3 ?_;refine s.same O_ nb hi e4 λh1 c1 q1 s1 d1=>?_;have w1:Wt h1 nw (c1.has vs):=(w.zA q1 rfl rfl).eq (z2F d1);apply wq;apply yZ;refine sm (Ee ..) ?_;obtain ⟨qL,sl',e2',e3',e4',e5'⟩:=w1.get hi;refine z6 (pF 3 65 K_ O_ O_) ?_;rw [show ((i:Nat):Int).toNat=i by omega];refine zl e2' hc e3' ?_;have hl2:(c1.has vs i).length=(vs i).length+1:=by unfold Ca.has;simp
  refine ze (SC (nD.full e4')) ?_;rw [hl2];refine rQ O_ O_ ?_;refine zE O_ O_ ?_;rw [show ((t:Nat):Int)+((((vs i).length+1:Nat):Int)-1)=((t+(vs i).length:Nat):Int) by omega];refine sm (IS ..) ?_;refine zE O_ O_ ?_;rw [show ((i:Nat):Int)+1=((i+1:Nat):Int) by omega];rw [List.range'_succ,List.map_cons,List.sum_cons] at ht;refine z7.of (zem j (i+1) m h1 (k+100) a c1 ro vs ps (t+(vs i).length) O_ O_ s1 O_ (nb.mono (Nat.le_refl _) d1) w1 O_ ?_);have h0:=nb.len 0 O_;have nF:=nb.len 1 O_;have h2':=nb.len 2 O_;have:=nb.jK;omega
theorem commitVersionsLaw (hl:∀ s∈l,s.ok) {u f:Nat} (hu:u<256) (hf:f<256) {h:AH} (ha:XY 75 h x (l.map spV)):z0q 4 [.int .u8 u,.int .u8 f,x] h QT:=by
 have h6:u%6<6:=Nat.mod_lt _ D_;have h5:f%5<5:=Nat.mod_lt _ D_;refine C4 _ _ _ _ _ ?_;refine z6 (Uz O_) ?_;rw [show ((u:Nat):Int).tmod 6=((u%6:Nat):Int) from rfl];refine tQ E_ O_ O_ ?_;refine zE O_ O_ ?_;refine z6 (Uz O_) ?_;rw [show ((f:Nat):Int).tmod 5=((f%5:Nat):Int) from rfl];refine tQ E_ O_ O_ ?_;refine zE O_ O_ ?_;rw [show (1:Int)+((u%6:Nat):Int)=((1+u%6:Nat):Int) by omega,show (4:Int)+((f%5:Nat):Int)=((4+f%5:Nat):Int) by omega];generalize hun:1+u%6=un;generalize M4:4+f%5=fr;have k4:4<=fr/\fr<=32:=O_;have k1:1<=un/\un<=16:=O_;refine z3e (T:=gU) (P9 (un:=un) (fr:=fr) k4 k1 (ud h)) (λe hs q=>by obtain ⟨_,_,_,_,_,_,q1,_⟩:=q;exact q1) λe h1 q1 q=>?_;obtain ⟨pd,pb,n,r,d,rfl,_,e1,df,b1,NJ⟩:=q;refine ⟨_,rfl,?_⟩;have p0:=MN (pd:=pd) k4 k1 df b1.ca.ok;obtain ⟨_,_,d0,t0⟩:=Sk (pd:=pd) k4 k1 df b1.ca.ok;generalize Ca.new d (Lg.new pd (5+un) 200 1 0 1) fr 3 un=c0 at *;refine z6 (show zm (.yX [pU pd,fD pb]) 0=some (pU pd) from rfl) ?_;refine z6 (show zm (.yX [pU pd,fD pb]) 1=some (fD pb) from rfl) ?_;refine z6 (N1 pb) ?_;apply yZ;refine sm (FB ..) ?_;refine ze3 (un:=un) (n:=n) (r:=r) (l:=l) (λh2 k a c ro vs ps sv s hk ha nb Xc=>?_) hl d0 t0 ⟨ha.zA q1,b1,NJ,p0⟩;dsimp only [zS];refine z6 (show zm (.yX [.agg sv,.bool true]) 0=some (.agg sv) from rfl) ?_;refine z6 (show zm (.yX [.agg sv,.bool true]) 1=some (.bool true) from rfl) ?_;refine zq (yA (show xk Pg 66=some (.agg [.y8 none 0,.y8 none 0,.y8 none 0]) from K_) K_) λh3 u3=>?_;have n3:=u3.next;have q3:wX [] h2 h3:=wX.new u3;refine zq (zM (p:=[]) u3.at_ K_ rfl Xc.sh rfl) λh4 u4=>?_;have n4:=u4.next;have q4:wX [] h2 h4:=q3.ya u4 (Nat.le_refl _);apply wq;apply yZ;refine sm (En ..) ?_;refine ⟨4,z7.of ?_⟩;have s4:=s.zA q4 rfl rfl;have w4:Wt h4 h2.next (c.has vs):=⟨⟨sv,(Xc.zA q4 rfl).1,u4.at_,(Xc.zA q4 rfl).2⟩,O_,λi hi=>⟨by
  have:=nb.len i hi;unfold Ca.has;simp;omega,B6 s.pl hi⟩⟩
 have ht:(0:Nat)+(((List.range' 0 3).map λq=>(vs q).length).sum)=ro.jK:=by
  have:=nb.jK;simp [List.range'_succ];omega
 exact zem 3 0 4 h4 k a c ro vs ps 0 O_ O_ s4 O_ nb w4 ht O_
end
end Go.Proofs.YtdbgifdfdhhjcaaGreat.Sh
namespace Go.Proofs.YtdbgifdfdhhjcaaGreat.Op
section
open Go Go.Ab Go.RowKit
open Go.Proofs.YtdbgifdfdhhjcaaGreat.Ru (Pg yL)
open Go.Proofs.YtdbgifdfdhhjcaaGreat.Sh
open Go.Proofs.YtdbgifdfdhhjcaaGreat.wT
set_option maxRecDepth 10000
variable {H:Type} {enc:TypeId × Value->H} {W:World}
theorem Zb {a:Addr} {c:Array Value} {elem:TypeId} {fr:Nat × Nat} (hb:W.heap[a.block]?=some (.cells c elem fr)) (hs:a.spot=none) {k n:Nat} (hn:0<n) {cl:List Value} (h:W.cells? 0 (a.add k) n=some cl) :
 cl=(c.toList.drop (a.off+k)).take n/\a.off+k+n<=c.size:=by
 simp only [World.cells?,Nat.zero_le,if_true] at h;have hl:cl.length=n:=by simpa using mapM_some_length h
 have hg:∀ j,j<n->W.cell? ((a.add k).add j)=cl[j]?:=λj hj=>mapM_some_get h j j (by simp [hj]);have hc:∀ j,j<n->c[a.off+k+j]?=cl[j]?:=by
  intro j hj;rw [<- hg j hj];have e1:((a.add k).add j).block=a.block/\((a.add k).add j).off=a.off+k+j/\((a.add k).add j).spot=none:=by
   unfold Addr.add;by_cases h1:k=0
   ·subst h1;by_cases h2:j=0
    ·subst h2;exact ⟨rfl,rfl,hs⟩
    ·simp [h2]
   ·by_cases h2:j=0
    ·subst h2;simp [h1]
    ·simp [h1,h2]
  simp only [World.cell?,e1.1,e1.2.1,e1.2.2,hb,Option.isSome_none];simp
 have hsz:a.off+k+n<=c.size:=by
  have:=hc (n-1) O_;rw [List.getElem?_eq_getElem O_] at this;have:=(Array.getElem?_eq_some_iff.1 this).1;omega
 refine ⟨?_,hsz⟩;apply List.ext_getElem?;intro j;by_cases hj:j<n
 ·rw [<- hc j hj,List.getElem?_take,if_pos hj,List.getElem?_drop];simp
 ·rw [List.getElem?_eq_none O_,List.getElem?_eq_none (by simp;omega)]
theorem AW {ι:zw} {c:List Value} {o C:Nat} {X:Nat->V}:∀ (n i:Nat),(∀ k,k<n->zL Pg ι (X (i+k)) ((c.drop (o+C*(i+k))).take C))->y5 Pg ι ((List.range' i n).map X) ((c.drop (o+C*i)).take (C*n))
 | 0,i,h=>by simp [y5]
 | n+1,i,h=>by
  rw [List.range'_succ,List.map_cons];simp only [y5];refine ⟨_,_,h 0 O_,AW n (i+1) (λk hk=>by have:=h (k+1) O_;rw [show i+1+k=i+(k+1) by omega];exact this),?_⟩;rw [Nat.add_zero];have:C*(n+1)=C+C*n:=by rw [Nat.mul_add,Nat.mul_one,Nat.add_comm]
  rw [this,List.take_add,List.drop_drop];congr 2;rw [Nat.mul_add,Nat.mul_one];congr 1;omega
theorem mQ {e:TypeId}:∀ {ds:List (DataW H)} {d:DataW H} {n:Nat},d∈ds->n∈d.weights Pg e->n∈DataW.weightsAll Pg e ds
 | x :: ds,d,n,hd,hn=>by
  simp only [DataW.weightsAll,List.mem_append];rcases List.mem_cons.1 hd with rfl | hd
  ·exact .inl hn
  ·exact .inr (mQ hd hn)
theorem aS {e:TypeId} {X:Nat->V} (h:∀ i,zf Pg (X i) e=true):∀ l:List Nat,zF Pg (l.map X) e=true
 | []=>rfl
 | a :: l=>by simp only [List.map_cons,zF,h,Bool.true_and];exact aS h l
theorem Ll {t e:TypeId} {dd M:Nat} (ut:Pg.underlying t=some (.slice e)) (hf:jp Pg dd e=true) (hce:0<Pg.cellsOf e) {z:V} (hz:zf Pg z e=true) {base:Nat} {v:Value} {d:DataW H} {ps:List MemPlace} (hv:Value.okWide Pg W .any base t v)
 (h:DataW.Trod enc Pg W 0 (λ_=>true) true t v d ps) (hw:∀ n∈d.weights Pg t,n<=M) :
 ∃ (xs:List V) (hh:AH) (x:V) (ι:zw),(∀ y∈xs,zf Pg y e=true/\WD M y=true)/\XY e hh x xs/\ye Pg ⟨λb=>b<W.heap.size,W⟩ ι hh W/\rel Pg ι x v:=by
 obtain ⟨fuel,h⟩:=h;simp only [Value.okWide,ut,Cell.okWide] at hv;generalize hC:Pg.cellsOf e=C at *;rcases DataW.trod_slice ut h with ⟨hc,_⟩ | ⟨a,len,cap,elems,rest,n,rfl,hc,hy,_,hlc,hcm,J3,z16,hsp,_⟩
 ·have ev:v=.slice none 0 0:=by
   cases v <;> simp only [Cell.ok,ut] at hv <;> first | (exact hv.elim) | (simpa [Value.cells] using hc)
  subst ev;exact ⟨[],xD,.y8 none 0,λ_=>none,(λe he=>by cases he),.inl ⟨rfl,rfl⟩,⟨λn o hm=>by simp [xD] at hm,λ_ _=>rfl,λn n' o o' L L' hm=>by simp [xD] at hm,λn o L hm=>by simp [xD] at hm,λb hb=>⟨rfl,hb⟩,rfl,rfl,rfl,Nat.le_refl _⟩,.inr ⟨rfl,by simp [zL,Value.cells]⟩⟩
 ·have ev:v=.slice (some a) len cap:=by
   cases v <;> simp only [Cell.ok,ut] at hv <;> first | (exact hv.elim) | (simpa [Value.cells] using hc)
  subst ev;simp only [Cell.ok,ut] at hv;obtain ⟨_,_,_,Oj,row,cells,Rx,_⟩:=hv;obtain ⟨c,elem,fr,hb⟩:∃ c elem fr,W.heap[a.block]?=some (.cells c elem fr):=by
   unfold World.shape? at Rx;split at Rx
   ·rename_i c elem fr hb;exact ⟨c,elem,fr,hb⟩
   ·cases Rx
  obtain ⟨hr1,hr2⟩:=hsp rfl;have hd:d=.slice (elems.map (·.1)) (rest.map (·.1)):=by simpa using congrArg Prod.fst hy
  have one:∀ i,∃ y:V,zf Pg y e=true/\(i<len->WD M y=true/\∀ ι:zw,zL Pg ι y ((c.toList.drop (a.off+C*i)).take C)):=by
   intro i;by_cases hi:i<len
   ·have e1:=z16 i hi;rw [List.getElem?_eq_getElem O_,hC] at e1;obtain ⟨cl,q1,q2⟩:=Option.bind_eq_some_iff.1 e1;obtain ⟨t1,_⟩:=Zb hb Oj hce q1;obtain ⟨⟨y,g1,g2,g3⟩,_⟩:=kp yL.lay _ dd e _ _ hf q2 (M:=M) (λn hn=>hw n (by
     rw [hd];simp only [DataW.weights,ut,List.mem_cons,List.mem_append];exact .inr (.inl (mQ (List.mem_map.2 ⟨elems[i],List.getElem_mem _,rfl⟩) hn))))
    rw [t1,show i*C=C*i from Nat.mul_comm _ _] at g3;exact ⟨y,g1,λ_=>⟨g2,g3⟩⟩
   ·exact ⟨z,hz,λh=>absurd h hi⟩
  obtain ⟨X,one⟩:=Classical.axiomOfChoice one;obtain ⟨off,UO,ze8⟩:∃ off,(0<cap->off=a.off)/\off+C*cap<=c.size:=by
   by_cases h0:cap=0
   ·exact ⟨0,λh=>by omega,by rw [h0];omega⟩
   ·refine ⟨a.off,λ_=>rfl,?_⟩;have last:∃ (y:DataW H × List MemPlace),(W.cells? 0 (a.add ((cap-1)*Pg.cellsOf e)) (Pg.cellsOf e)).bind (DataW.trod enc Pg W 0 (λ_=>true) true n e)=some y:=by
     by_cases hl:cap-1<len
     ·exact ⟨_,(z16 _ hl).trans (List.getElem?_eq_getElem O_)⟩
     ·have e:=hr2 (cap-1-len) O_;rw [show len+(cap-1-len)=cap-1 by omega] at e;exact ⟨_,e.trans (List.getElem?_eq_getElem O_)⟩
    obtain ⟨y,hy⟩:=last;rw [hC] at hy;obtain ⟨cl,q1,_⟩:=Option.bind_eq_some_iff.1 hy;have:=(Zb hb Oj hce q1).2;have e2:C*cap=(cap-1)*C+C:=by
     obtain ⟨m,rfl⟩:∃ m,cap=m+1:=⟨cap-1,O_⟩
     rw [Nat.add_sub_cancel,Nat.mul_add,Nat.mul_one,Nat.mul_comm]
    omega
  let xs:List V:=(List.range' 0 len).map X
  let Lo:Go.Ab.Loc:=⟨a.block,off,c.size,.row e⟩
  let hh:AH:=⟨1,λn=>if n=0 then some (.cells false (.row e) (.agg xs)) else none⟩
  let ι:zw:=λn=>if n=0 then some Lo else none
  have hxs:xs.length=len:=by simp [xs]
  have ze9:y5 Pg ι xs ((c.toList.drop off).take (C*len)):=by
   by_cases h0:len=0
   ·have:xs=[]:=List.length_eq_zero_iff.1 O_;rw [this,h0];simp [y5]
   ·have:=AW (ι:=ι) (c:=c.toList) (o:=off) (C:=C) (X:=X) len 0 (λk hk=>by
     rw [UO O_,Nat.zero_add];exact ((one k).2 hk).2 ι)
    simpa using this
  have hlc2:C*len<=C*cap:=Nat.mul_le_mul_left _ hlc;have sS:pG Pg ι W Lo (.cells false (.row e) (.agg xs)):=by
   refine ⟨rfl,aS (λi=>(one i).1) _,c.toList.take off,(c.toList.drop off).take (C*len),c.toList.drop (off+C*len),elem,fr,?_,(by show (c.toList.take off).length=off;simp;omega),?_,?_,λh=>by cases h⟩
   ·rw [hb];have:c.toList.take off++(c.toList.drop off).take (C*len)++c.toList.drop (off+C*len)=c.toList:=by
     rw [List.append_assoc,<- List.drop_drop,List.take_append_drop,List.take_append_drop]
    rw [this]
   ·show _=c.size;simp;omega
   ·simp only [zL];exact ze9
  refine ⟨xs,hh,.y8 (some (⟨0,.row e,[]⟩,0)) len,ι,?_,?_,?_,?_⟩
  ·intro y hy;obtain ⟨i,hi,rfl⟩:=List.mem_map.1 hy;have vK:i<len:=by rw [List.mem_range'] at hi;omega
   exact ⟨(one i).1,((one i).2 vK).1⟩
  ·exact .inr ⟨0,by show 0<1;omega,by rw [hxs],rfl⟩
  ·refine ⟨λn o hm=>?_,λn hn=>?_,λn n' o o' L L' hm _ _ ho=>?_,λn o L hm ho=>?_,λb hb=>⟨rfl,hb⟩,rfl,rfl,rfl,Nat.le_refl _⟩
   ·by_cases e0:n=0
    ·subst e0;cases hm;exact ⟨Lo,rfl,sS⟩
    ·have hm:(if n=0 then some (AO.cells false (.row e) (.agg xs)) else none)=some o:=hm;rw [if_neg e0] at hm;cases hm
   ·have hn:1<=n:=hn;show (if n=0 then _ else none)=none;rw [if_neg O_]
   all_goals
    exfalso;have hm:(if n=0 then some (AO.cells false (.row e) (.agg xs)) else none)=some o:=hm;by_cases e0:n=0
    ·rw [if_pos e0] at hm;cases hm;cases ho
    ·rw [if_neg e0] at hm;cases hm
  ·refine .inr ⟨rfl,?_⟩;simp only [zL,Value.cells];refine ⟨a,cap,hlc,⟨Lo,rfl⟩,λh0=>⟨Lo,0,e,rfl,rfl,rfl,?_,?_⟩,rfl⟩
   ·have hab:a=⟨a.block,a.off,none⟩:=by cases a;simp at Oj;rw [Oj]
    rw [hab];simp [Lo,UO h0]
   ·rw [hC,Nat.zero_add];show off+cap*C<=c.size;rw [Nat.mul_comm];exact ze8
theorem C8 {v:V} {M:Nat} (hs:zf Pg v 73=true) (hg:WD M v=true):∃ b:List UInt8,v=.agg (zd b)/\b.length=64:=by
 have k5:RK Pg 5=some .u8:=K_;obtain ⟨ims,rfl,hlen,hims⟩:=Cs (n:=64) (e:=5) K_ hs;have gi:hG M ims=true:=hg;obtain ⟨ns,rfl,hns⟩:=VT k5 hims gi;refine ⟨ns.map c1,?_,by simpa using hlen⟩;congr 1;unfold zd;rw [List.map_map];refine List.map_congr_left λx hx=>?_;obtain ⟨h1,h2⟩:=wf_u8 (hns x hx);show V.int .u8 x=.int .u8 (((UInt8.ofNat x.toNat).toNat:Nat):Int);rw [UInt8.toNat_ofNat_of_lt' (by simp [UInt8.size];omega),show ((x.toNat:Nat):Int)=x by omega]
end
section
open Go Go.Ab Go.RowKit
open Go.Proofs.YtdbgifdfdhhjcaaGreat.Ru (Pg yL)
open Go.Proofs.YtdbgifdfdhhjcaaGreat.Sh
open Go.Proofs.YtdbgifdfdhhjcaaGreat.wT
set_option maxRecDepth 10000
variable {H:Type} {enc:TypeId × Value->H} {W:World}
theorem z1Z:jp Pg 10 75=true:=K_
theorem zd6 {v:V} {M:Nat} (hs:zf Pg v 75=true) (hg:WD M v=true):∃ s:Sp,v=spV s/\s.ok:=by
 have k5:RK Pg 5=some .u8:=K_;have b4:z21 Pg 4=true:=K_;obtain ⟨l,rfl,q1⟩:=z0S (ts:=[5,5,73,4]) K_ hs;obtain ⟨x0,l,rfl,h0,q2⟩:=C6 q1;obtain ⟨x1,l,rfl,h1,q3⟩:=C6 q2;obtain ⟨x2,l,rfl,h2,q4⟩:=C6 q3;obtain ⟨x3,l,rfl,h3,q5⟩:=C6 q4;obtain rfl:=z4X q5;obtain ⟨no,rfl⟩:=CQ k5 h0;obtain ⟨more,rfl⟩:=CQ k5 h1;obtain ⟨pop,rfl⟩:=z2X b4 h3;simp only [WD,hG,Bool.and_eq_true,Bool.and_true,decide_eq_true_eq,true_and,and_true] at hg;obtain ⟨g0,g1,g2⟩:=hg;obtain ⟨b,rfl,bl⟩:=C8 h2 g2;obtain ⟨a1,a2⟩:=wf_u8 g0;obtain ⟨b1,b2⟩:=wf_u8 g1;refine ⟨⟨no.toNat,more.toNat,b,pop⟩,?_,⟨by show no.toNat<_;omega,by show more.toNat<_;omega,bl⟩⟩;show V.agg [.int .u8 no,.int .u8 more,.agg (zd b),.bool pop]=.agg [.int .u8 (no.toNat:Nat),.int .u8 (more.toNat:Nat),.agg (zd b),.bool pop];rw [show ((no.toNat:Nat):Int)=no by omega,show ((more.toNat:Nat):Int)=more by omega]
theorem z5D:Pg.underlying 63=some (.slice 75):=K_
theorem open_steps {base:Nat} {v:Value} {d:DataW H} {ps:List MemPlace} (hv:Value.okWide Pg W .any base 63 v)
 (h:DataW.Trod enc Pg W 0 (λ_=>true) true 63 v d ps) (hw:∀ n∈d.weights Pg 63,n<=reachBytes) :
 ∃ (l:List Sp) (hh:AH) (x:V) (ι:zw),(∀ s∈l,s.ok)/\XY 75 hh x (l.map spV)/\ye Pg ⟨λb=>b<W.heap.size,W⟩ ι hh W/\rel Pg ι x v:=by
 obtain ⟨xs,hh,x,ι,h1,h2,h3,h4⟩:=Ll z5D z1Z E_ (z:=spV ⟨0,0,xM 64,false⟩) (z5W ⟨D_,D_,zI 64⟩) hv h hw;have:∃ l:List Sp,(∀ s∈l,s.ok)/\xs=l.map spV:=by
  clear h2;induction xs with
  | nil=>exact ⟨[],(λ_ h=>nomatch h),rfl⟩
  | cons y xs ih =>
   obtain ⟨l,g1,g2⟩:=ih λz hz=>h1 z (List.mem_cons_of_mem _ hz);obtain ⟨k1,k2⟩:=h1 y List.mem_cons_self;obtain ⟨b,rfl,bl⟩:=zd6 k1 k2;refine ⟨b :: l,λr' hr'=>?_,by rw [g2];rfl⟩;rcases List.mem_cons.1 hr' with rfl | q
   ·exact bl
   ·exact g1 r' q
 obtain ⟨l,g1,rfl⟩:=this;exact ⟨l,hh,x,ι,g1,h2,h3,h4⟩
end
end Go.Proofs.YtdbgifdfdhhjcaaGreat.Op
end
