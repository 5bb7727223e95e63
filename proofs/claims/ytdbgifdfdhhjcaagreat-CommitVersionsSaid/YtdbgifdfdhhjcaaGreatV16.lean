import Derived.Test.YtdbgifdfdhhjcaaGreatV15
import Derived.Test.YtdbgifdfdhhjcaaGreatV13
import Derived.Test.YtdbgifdfdhhjcaaGreatV14
set_option linter.unusedVariables false
set_option linter.unusedSimpArgs false
set_option linter.unusedSectionVars false
noncomputable section
namespace Go.Proofs.YtdbgifdfdhhjcaaGreat.Sh
open Go Go.Ab Go.RowKit
open Go.Proofs.YtdbgifdfdhhjcaaGreat.Ru (Pg yL)
open Go.Proofs.YtdbgifdfdhhjcaaGreat.wT (Rc nE uV uD uL qM c1 tE qO yR)
set_option maxRecDepth 10000
set_option maxHeartbeats 4000000
set_option linter.unusedSectionVars false
theorem Om {no zZ:Nat} {p x:List UInt8} {r:Rc} (h:tT no p zZ r=some x):x.length=224:=by
 unfold tT at h;cases hg:ua no p with
 | none=>rw [hg] at h;cases h
 | some u =>
  rw [hg] at h;cases hs:t9 u r with
  | none=>simp only [hs] at h;cases h
  | some v =>
   simp only [hs] at h;cases h;exact pK (u:=⟨zZ,v.zt⟩) (show wZ v.zt=true from kq (av hg) hs)
theorem z3Y {h:AH} {no zZ:Nat} {p:List UInt8} {r:Rc} (hp:p.length=224) (vk:no<65536) (hl:zZ<18446744073709551616) (o:r.ok) (hod:r.od.length<1000000) (hm:r.may=true) (hu:r.zU=true) (hn:r.no=no) (hk:r.k≠6) :
 z0q 90 [vM true no,.agg (zd p),dI zZ r] h (zO (oe (tT no (Rc.Zy r p) zZ r)) h):=by
 refine yN (U8 _ _) ?_;show z0q 90 _ h (UQ h (tT no (Rc.Zy r p) zZ r));have sr:=qO r o.im;obtain ⟨k1,k2⟩:=o.k;have hmp:=tE r o.im;rw [hm] at hmp;refine C90 _ _ _ _ _ ?_;refine zq (yl (je true no)) λh1 u1=>?_;have n1:=u1.next;have q1:zb [] h h1:=zb.new u1;refine zq (yl (xf hp)) λh2 u2=>?_;have n2:=u2.next;have q2:zb [] h1 h2:=zb.new u2;refine zq (yl (MJ zZ o.im)) λh3 u3=>?_;have n3:=u3.next;have q3:zb [] h2 h3:=zb.new u3;refine zq (yA na (xf (zI 224))) λh4 u4=>?_;have n4:=u4.next;have q4:zb [] h3 h4:=zb.new u4;refine zx K_ ?_;refine zl (q4.at u3.at_ O_ rfl) K_ (w:=r.v) rfl ?_;refine zq (yA SQ (wT.V9 0)) λh5 u5=>?_;have n5:=u5.next;have q5:zb [] h4 h5:=zb.new u5;refine zq (zM (p:=[]) u5.at_ K_ rfl sr rfl) λh6 u6=>?_;have n6:=u6.next;have Vf:zb [] h4 h6:=q5.ya u6 (Nat.le_refl _);have Tj:=((q1.trans q2).trans (q3.trans q4)).trans Vf;have f1:=((q2.trans (q3.trans q4)).trans Vf).at u1.at_ O_ rfl;have f2:=((q3.trans q4).trans Vf).at u2.at_ O_ rfl;have f3:=(q4.trans Vf).at u3.at_ O_ rfl;have f4:=Vf.at u4.at_ O_ rfl;have f5:=u6.at_;clear u1 u2 u3 u4 u5 u6 q1 q2 q3 q4 q5 Vf;have gk:yF r.v ([]++[0])=some (.int .u8 r.k):=rfl;have gp:yF r.v ([]++[1])=some (vM true no):=by
  rw [show yF r.v ([]++[1])=some (.agg [.bool r.zU,.int .u16 r.no]) from rfl,hu,hn];rfl
 have gi:yF r.v ([]++[2])=some (.agg (zd (qM r.im))):=by rw [<- z9H o.imb];rfl
 have w1:yF (vM true no) ([]++[0])=some (.bool true):=rfl;have w2:yF (vM true no) ([]++[1])=some (.int .u16 no):=rfl;have fin:∀ (h7:AH) (x:List UInt8),x.length=224->tT no x zZ r=tT no (Rc.Zy r p) zZ r->zb [] h h7->h7.m h.next=some (.cells true (.one 43) (vM true no))->h7.m h1.next=some (.cells true (.one 33) (.agg (zd x)))->h7.m h2.next=some (.cells true (.one 97) (dI zZ r))->h7.m h3.next=some (.cells true (.one 33) (.agg (zd (xM 224))))->h3.next<h7.next ->
  z2J (UQ h (tT no (Rc.Zy r p) zZ r)) (.ptr (some ⟨h.next,.one 43,[]⟩)) (.ptr (some ⟨h1.next,.one 33,[]⟩)) (.ptr (some ⟨h2.next,.one 97,[]⟩)) (.ptr (some ⟨h3.next,.one 33,[]⟩)) (.ptr (some ⟨h4.next,.one 95,[]⟩)) h7:=by
  intro h7 x hx ex q7 a1 a2 a3 a4 l7;rw [Fg];refine zx K_ ?_;refine zl a1 K_ w1 ?_;apply xz;refine zx K_ ?_;refine zl a1 K_ w2 ?_;refine zl a2 K_ (w:=.agg (zd x)) rfl ?_;refine zl a3 K_ (w:=dI zZ r) rfl ?_;refine yf (z9C hx vk hl o hod) ?_;rw [ex];have hlen:∀ y,tT no (Rc.Zy r p) zZ r=some y->y.length=224:=λy hy=>Om hy;have A6:∀ (y:List UInt8) (e:Int),y.length=224->oe (tT no (Rc.Zy r p) zZ r)=.yX [.agg (zd y),.int .i64 e] ->
   z0 (zh Pg h7 33 (.ptr (some ⟨h3.next,.one 33,[]⟩)) (.agg (zd y))) λ_ h62=>yq (zX Pg [(6,.ptr (some ⟨h3.next,.one 33,[]⟩)),(7,.int .i64 e)] h62 NW) λv=>UQ h (tT no (Rc.Zy r p) zZ r) (.ret v) h62:=by
   intro y e hy ey;refine zq (zM (p:=[]) a4 K_ rfl (xf hy) rfl) λh8 u8=>?_;have e1:=zR (P:=Pg) (t:=33) (p:=[]) u8.at_ K_ (w:=.agg (zd y)) rfl;simp only [z9] at e1;have e2:=(zK e1).1;refine yr (show zX Pg _ _ NW=some [.agg (zd y),.int .i64 e] by simp [NW,zX,zJ.get,e2]) ?_;exact ⟨by rw [ey];rfl,(q7.ya u8 O_).all⟩
  cases hr:tT no (Rc.Zy r p) zZ r with
  | none =>
   rw [hr] at A6;apply wj;apply wl;exact A6 _ _ (zI 224) rfl
  | some y =>
   rw [hr] at A6;apply wj;apply wl;exact A6 _ _ (hlen y hr) rfl
 refine zl f5 K_ (w:=r.v) rfl ?_;refine yf (hmp _) ?_;by_cases c1:r.k=1
 ·have eo:Rc.Zy r p=qM r.im:=by unfold Rc.Zy;rw [if_pos c1]
  apply wq;apply xc;refine zx K_ ?_;refine zl f5 K_ gk ?_;refine yB O_ ?_;refine sm (WN ..) ?_;apply yi;apply xc;refine zx K_ ?_;refine zl f5 K_ gp ?_;refine zl f1 K_ (w:=vM true no) rfl ?_;refine z6 (qu _ _ _) ?_;refine sm (QH ..) ?_;apply yi;refine sm (QN ..) ?_;apply yZ;refine sm (GA ..) ?_;refine zx K_ ?_;refine zl f5 K_ gk ?_;refine xn O_ ?_;apply xz;refine zx K_ ?_;refine zl f5 K_ gi ?_;have il:(qM r.im).length=224:=by rw [C7];exact o.im
  refine zq (zM (p:=[]) f2 K_ rfl (xf il) rfl) λh7 u7=>?_;have n7:=u7.next;exact z7.of (fin h7 (qM r.im) il (by rw [eo]) (Tj.ya u7 O_) ((u7.other _ O_).trans f1) u7.at_ ((u7.other _ O_).trans f3) ((u7.other _ O_).trans f4) O_)
 ·have eo:Rc.Zy r p=p:=by unfold Rc.Zy;rw [if_neg c1]
  apply wq;apply xc;refine zx K_ ?_;refine zl f5 K_ gk ?_;refine yB O_ ?_;refine sm (WN ..) ?_;apply yi;apply xc;refine zx K_ ?_;refine zl f5 K_ gp ?_;refine zl f1 K_ (w:=vM true no) rfl ?_;refine z6 (qu _ _ _) ?_;refine sm (QH ..) ?_;apply yi;refine sm (QN ..) ?_;apply yZ;refine sm (GA ..) ?_;refine zx K_ ?_;refine zl f5 K_ gk ?_;refine yB O_ ?_;apply yZ;exact z7.of (fin h6 p hp (by rw [eo]) Tj f1 f2 f3 f4 O_)
open Go.Proofs.YtdbgifdfdhhjcaaGreat.wT (Rc nE uV uD uL qM c1 tE rS w9 qO yR)
def Ca.yh (c:Ca) (i:vd):(List UInt8 × Int) × Ca:=c.wA (qr i) (W6 i) i
theorem TG {c:Ca} {d:Dk} {i:vd} {x:List UInt8 × Bool} (hm:c.ck.n=c.wE) (hl:c.fr.length<c.wE):(c.more d i x).holds i x.1:=by
 refine ⟨c.fr.length,?_,?_,gY (by show c.fr.length<c.ck.pins.length;unfold Ck.n at hm;omega),?_⟩
 ·show xI (qS c.at_ i c.fr.length) i=_;rw [ri,if_pos rfl]
 ·show _<(c.fr++[_]).length;simp
 ·show ((c.fr++[(⟨i,x.1,false,0,x.2⟩:Fr)])[c.fr.length]?.getD Yv).p=x.1;rw [List.getElem?_append_right (Nat.le_refl _),Nat.sub_self];rfl
theorem Sg {c:Ca} {d:Dk} {i:vd} {j:Nat} {x:List UInt8 × Bool} (hm:c.ck.n=c.wE) (hl:c.fr.length<=c.wE) (hj:j<c.fr.length):(c.swap j d i x).holds i x.1:=by
 refine ⟨j,?_,?_,gY (by show j<c.ck.pins.length;unfold Ck.n at hm;omega),?_⟩
 ·show xI (qS (nr c.at_ (c.frame j).id) i j) i=_;rw [ri,if_pos rfl]
 ·show _<(c.fr.set j _).length;rw [List.length_set];exact hj
 ·show ((c.fr.set j (⟨i,x.1,false,0,x.2⟩:Fr))[j]?.getD Yv).p=x.1;rw [List.getElem?_set_self hj];rfl
theorem jt {rt:List UInt8->Bool} {bl:List UInt8} {c:Ca} {i:vd} {j:Nat} (hm:c.ck.n=c.wE) (hl:c.fr.length<=c.wE) (hj:j<=c.fr.length) (hjm:j<c.wE) (h:(c.load rt bl i j).1.2=0):(c.load rt bl i j).2.holds i (c.load rt bl i j).1.1:=by
 unfold Ca.load at h ⊢;by_cases e:(c.dk.read (c.place i)).2.1=0
 ·simp only [if_pos e];unfold Ca.tB;by_cases ej:j=c.fr.length
  ·rw [if_pos ej];exact TG hm O_
  ·rw [if_neg ej];exact Sg hm hl O_
 ·simp only [if_neg e] at h;exact absurd h e
theorem mN {rt:List UInt8->Bool} {bl:List UInt8} {c:Ca} {i:vd} (o:c.ok) (ho:c.ck.hand<c.ck.n) (h:(c.wA rt bl i).1.2=0):(c.wA rt bl i).2.holds i (c.wA rt bl i).1.1:=by
 have hm:=o.wE;have hl:=o.len;obtain ⟨v1,v2,v3⟩:=Ck.lK c.ck ho;unfold Ca.wA at h ⊢;by_cases g:c.tC i
 ·rw [if_pos g] at h ⊢;cases hk:xI c.at_ i with
  | some j =>
   have hj:=o.lt hk;exact ⟨j,hk,hj,gY (by show j<c.ck.n;omega),rfl⟩
  | none =>
   rw [hk] at h;simp only at h ⊢;by_cases hlt:c.fr.length<c.wE
   ·rw [if_pos hlt] at h ⊢;exact jt hm.1 hl (Nat.le_refl _) hlt h
   ·rw [if_neg hlt] at h ⊢;cases hv:c.ck.yE.1 with
    | none=>rw [hv] at h;exact absurd (show (6:Int)=0 from h) D_
    | some j =>
     rw [hv] at h;simp only at h ⊢;obtain ⟨j1,j2⟩:=v3 j hv;have jl:j<c.fr.length:=O_;by_cases hd:(c.frame j).xQ=true
     ·rw [if_pos hd] at h ⊢;obtain ⟨b1,b2,b3,b4,b5,b6,b7⟩:=Ca.mh { c with ck:=c.ck.yE.2 } j;generalize ({ c with ck:=c.ck.yE.2 }:Ca).xT j=w at *;by_cases e:w.1=0
      ·rw [if_neg (by rw [e];simp)] at h ⊢;exact jt (by rw [b6,b4];show c.ck.yE.2.n=c.wE;rw [v1];exact hm.1) (by rw [b5,b4];exact hl) (by rw [b5];exact Nat.le_of_lt jl) (by rw [b4];show j<c.wE;omega) h
      ·rw [if_pos e] at h;exact absurd h e
     ·rw [if_neg hd] at h ⊢;exact jt (c:={ c with ck:=c.ck.yE.2 }) (by show c.ck.yE.2.n=c.wE;rw [v1];exact hm.1) hl (Nat.le_of_lt jl) (by show j<c.wE;omega) h
 ·rw [if_neg g] at h;exact absurd (show (1:Int)=0 from h) D_
theorem oJ (rt:List UInt8->Bool) (bl:List UInt8) (c:Ca) (i:vd) (h:(c.wA rt bl i).1.2≠0):(c.wA rt bl i).1.1.length=224:=by
 have ld:∀ (c:Ca) (j:Nat),(c.load rt bl i j).1.2≠0->(c.load rt bl i j).1.1.length=224:=by
  intro c j h;unfold Ca.load at h ⊢;split
  ·rename_i e;rw [if_pos e] at h;exact absurd rfl h
  ·exact zI 224
 unfold Ca.wA at h ⊢;split
 ·rename_i g;rw [if_pos g] at h;cases hk:xI c.at_ i with
  | some j=>rw [hk] at h;exact absurd rfl h
  | none =>
   rw [hk] at h;simp only at h ⊢;by_cases hlt:c.fr.length<c.wE
   ·rw [if_pos hlt] at h ⊢;exact ld _ _ h
   ·rw [if_neg hlt] at h ⊢;cases hv:c.ck.yE.1 with
    | none=>exact zI 224
    | some j =>
     rw [hv] at h;simp only at h ⊢;by_cases hd:(c.frame j).xQ=true
     ·rw [if_pos hd] at h ⊢;split
      ·exact zI 224
      ·rename_i e;rw [if_neg e] at h;exact ld _ _ h
     ·rw [if_neg hd] at h ⊢;exact ld _ _ h
 ·exact zI 224
def Lg.T7 (a b:Lg):Prop:=b.num<=a.num+1/\b.fin=a.fin/\b.zB.length<=a.zB.length+1/\b.xJ.length<=a.xJ.length/\b.size=a.size/\b.d=a.d/\b.ep=a.ep
theorem Lg.rU (a:Lg):a.T7 a:=⟨O_,rfl,O_,O_,rfl,rfl,rfl⟩
theorem Lg.Rk (a:Lg):a.T7 a.close:=by
 unfold Lg.close;split
 ·exact a.rU
 ·exact ⟨Nat.le_refl _,rfl,by show (a.zB++[_]).length<=_;simp,by show (a.xJ.drop _).length<=_;simp,rfl,rfl,rfl⟩
theorem Lg.dz {a l:Lg} (h:a.T7 l) (cs:List Ch) (d:Dk):a.T7 (l.ti cs d).2.1:=by
 obtain ⟨h1,h2,h3,h4,h5,h6,h7⟩:=h;unfold Lg.ti;split
 ·exact ⟨h1,h2,h3,h4,h5,h6,h7⟩
 ·exact ⟨h1,h2,by show 0<=_;omega,h4,h5,h6,h7⟩
theorem Lg.Rl (a:Lg) (d:Dk):a.T7 (a.flush d).2.1:=by
 have h:=a.Rk;unfold Lg.flush Lg.uu;split
 ·exact h
 ·split
  ·exact Lg.dz h _ _
  ·split
   ·exact h
   ·obtain ⟨h1,h2,h3,h4,h5,h6,h7⟩:=h;exact Lg.dz (l:={ a.close with fresh:=false }) ⟨h1,h2,h3,h4,h5,h6,h7⟩ _ _
theorem Ca.Rm (c:Ca) (j:Nat):c.lg.T7 (c.xT j).2.lg:=by
 have hb:c.lg.T7 (c.wt j).2.1:=by
  unfold Ca.wt;split
  ·exact Lg.Rl _ _
  ·exact Lg.rU _
 unfold Ca.xT;split
 ·exact hb
 ·have:=(Ca.Zz { c with lg:=(c.wt j).2.1 } j (c.wt j).2.2).2.2.2.2.2.2.2;rw [this];exact hb
theorem Ca.Vc (rt:List UInt8->Bool) (bl:List UInt8) (c:Ca) (i:vd) (j:Nat):(c.load rt bl i j).2.lg=c.lg:=by
 unfold Ca.load;split
 ·show (c.tB j _ i _).lg=_;unfold Ca.tB;split <;> rfl
 ·rfl
theorem Ca.Rn (rt:List UInt8->Bool) (bl:List UInt8) (c:Ca) (i:vd):c.lg.T7 (c.wA rt bl i).2.lg:=by
 unfold Ca.wA;split
 ·split
  ·exact Lg.rU _
  ·split
   ·rw [Ca.Vc];exact Lg.rU _
   ·split
    ·exact Lg.rU _
    ·rename_i j hv;split
     ·have hb:=Ca.Rm { c with ck:=c.ck.yE.2 } j;split
      ·exact hb
      ·rw [Ca.Vc];exact hb
     ·rw [Ca.Vc];exact Lg.rU _
 ·exact Lg.rU _
def rA (i:vd) (p:List UInt8) (zZ:Nat) (r:Rc):Option (List UInt8):=if i.1 then tT i.2 (Rc.Zy r p) zZ r else ao i.2 p zZ r
def VL (i:vd) (p:List UInt8):Rc:={ lf i.2 p with zU:=i.1 }
def Ca.oC (c:Ca) (i:vd) (r:Rc) (x:List UInt8):Rc:=if c.clean i then VL i x else r
def uZ (i:vd) (x:List UInt8) (c:Ca) (ro:Ro):Ca × Ro :=
 if i.1 then (c.vQ i (decide (wi (ZC (ua i.2 x)).1.zt=0)),ro.note i.2 (ZC (ua i.2 x)).1) else (c,ro)
def Ca.kM (c2:Ca) (i:vd) (ro:Ro) (r:Rc) (x:List UInt8):Int × Ca × Ro :=
 if (c2.lg.append (c2.oC i r x).enc).1.2=0 then
  (0,(uZ i x (({ c2 with lg:=(c2.lg.append (c2.oC i r x).enc).2 }:Ca).oL i x) ro).1.xm i,(uZ i x (({ c2 with lg:=(c2.lg.append (c2.oC i r x).enc).2 }:Ca).oL i x) ro).2)
 else ((c2.lg.append (c2.oC i r x).enc).1.2,c2.xm i,ro)
def Ca.yy (c:Ca) (ro:Ro) (r:Rc):Int × Ca × Ro :=
 if r.may=true/\r.k≠1/\r.k≠6 then
  if (c.yh (r.zU,r.no.toNat)).1.2=0 then
   match rA (r.zU,r.no.toNat) (c.yh (r.zU,r.no.toNat)).1.1 (c.yh (r.zU,r.no.toNat)).2.lg.fin r with
   | none=>(2,(c.yh (r.zU,r.no.toNat)).2.xm (r.zU,r.no.toNat),ro)
   | some x=>(c.yh (r.zU,r.no.toNat)).2.kM (r.zU,r.no.toNat) ro r x
  else ((c.yh (r.zU,r.no.toNat)).1.2,(c.yh (r.zU,r.no.toNat)).2,ro)
 else (1,c,ro)
theorem za2 {r:Rc} (hm:r.may=true) (h1:r.k≠1) (h6:r.k≠6):r.dl.length<=66/\r.od.length<=66/\((r.zU=false/\r.k=2)\/(r.zU=true/\r.k≠2)):=by
 unfold Rc.may at hm;simp only [Bool.and_eq_true,decide_eq_true_eq] at hm;obtain ⟨⟨⟨⟨a1,a2⟩,a3⟩,a4⟩,a5⟩:=hm;refine ⟨a4,a5,?_⟩;have hu:=congrArg Rc.zU a3;unfold Rc.bare at hu;rw [if_neg h1] at hu;by_cases k2:r.k=2
 ·rw [if_pos k2] at hu;exact .inl ⟨hu.symm,k2⟩
 ·rw [if_neg k2] at hu;refine .inr ⟨?_,k2⟩;by_cases k3:r.k=3
  ·rw [if_pos k3] at hu;exact hu.symm
  ·rw [if_neg k3] at hu;by_cases k4:r.k=4
   ·rw [if_pos k4] at hu;exact hu.symm
   ·rw [if_neg k4] at hu;have k5:r.k=5:=O_;rw [if_pos k5] at hu;exact hu.symm
theorem Vl (i:vd) (p:List UInt8):(VL i p).may=true:=by
 have e:(VL i p).bare=VL i p:=rfl;unfold Rc.may;rw [e];simp [VL,lf,Rc.z]
theorem W5 {i:vd} {p:List UInt8} (hi:i.2<65536) (hp:p.length=224):(VL i p).ok:=by
 obtain ⟨a1,a2,a3,a4,a5,a6,a7,a8,a9,a10,a11,a12,a13,a14⟩:=GS hi hp;exact ⟨a1,a2,a3,a4,a5,a6,a7,a8,a9,a10,a11,a12,a13,a14⟩
theorem MU (i:vd) (p:List UInt8):(VL i p).v=.agg [.int .u8 1,pV i,.agg (zd p),.int .u32 0,.agg [.int .u16 0,.int .u8 0],.str [],.int .u8 0,uD false 0 0 0 0 []]:=by
 rw [<- I3];rfl
theorem E1 (i:vd) {p:List UInt8} (hp:p.length=224):zD Pg 95 [(0,.int .u8 1),(1,pV i),(2,.agg (zd p))]=some (VL i p).v:=by
 have h1:=fJ i;have h2:=xf hp;rw [MU];refine uR [5,43,33,56,58,9,5,60] SQ K_ ?_;have h3:zf Pg (.int .u8 1) 5=true:=K_;simp [xK,h1,h2,h3,wT.rz,Rc.z,Rc.v,uV,uD,uL]
theorem Id {r:Rc} (o:r.ok):yF r.v ([]++[1])=some (pV (r.zU,r.no.toNat)):=by
 have:=o.no;show some (V.agg [.bool r.zU,.int .u16 r.no])=some (V.agg [.bool r.zU,.int .u16 ((r.no.toNat:Nat):Int)]);rw [show ((r.no.toNat:Nat):Int)=r.no by omega]
theorem z1N {r:Rc} {p:List UInt8} {zZ:Nat} (hp:p.length=224) (hl:zZ<18446744073709551616) (o:r.ok) (hm:r.may=true) (h1:r.k≠1) (h6:r.k≠6) (h:AH) :
 z0q 90 [pV (r.zU,r.no.toNat),.agg (zd p),dI zZ r] h (zO (oe (rA (r.zU,r.no.toNat) p zZ r)) h):=by
 have vk:r.no=((r.no.toNat:Nat):Int):=by have:=o.no;omega
 have Rp:r.no.toNat<65536:=by have:=o.no;omega
 obtain ⟨d1,d2,hk⟩:=za2 hm h1 h6;rcases hk with ⟨hu,k2⟩ | ⟨hu,k2⟩
 ·rw [hu];exact zbd r hp Rp hl o hm hu vk k2 h
 ·rw [hu];exact z3Y hp Rp hl o O_ hm hu vk h6
theorem Fy {u:Un} (ok:u.ok) {o:Ol} (ho:o.ok):(uw u o).1.ok:=by
 unfold uw;split
 ·exact ⟨D_,(λ_ h=>nomatch h),D_⟩
 ·split
  ·exact ⟨D_,(λ_ h=>nomatch h),D_⟩
  ·rename_i i hp;have hl:=px (wz hp).2.1;refine ⟨ok.zZ,λx hx=>?_,?_⟩
   ·have hx:x∈yS u.zt i o:=hx;unfold yS at hx;split at hx
    ·rcases List.mem_append.1 hx with hx | hx
     ·exact ok.zt x hx
     ·rw [List.mem_singleton] at hx;subst hx;exact ho
    ·rcases List.mem_or_eq_of_mem_set hx with hx | rfl
     ·exact ok.zt x hx
     ·exact ho
   ·show (yS u.zt i o).length<=1000000;unfold yS;split
    ·simp;omega
    ·simp;omega
theorem Mt {u v:Un} (ok:u.ok) {r:Rc} (o:r.ok) (hd:r.od.length<1000000) (h:t9 u r=some v):v.ok:=by
 unfold t9 at h;split at h
 ·split at h
  ·cases h;exact Fy ok (La o hd)
  ·cases h
 ·split at h
  ·unfold uN at h;split at h
   ·cases h;refine ⟨ok.zZ,λx hx=>?_,?_⟩
    ·rcases List.mem_or_eq_of_mem_set (List.mem_of_mem_take hx) with hx | rfl
     ·exact ok.zt x hx
     ·exact ⟨D_,D_,D_,D_⟩
    ·show (List.take _ _).length<=_;have:=ok.len;rw [List.length_take,List.length_set];omega
   ·cases h
  ·split at h
   ·unfold jV at h;split at h
    ·rename_i g;cases h;have il:=py g.1;refine ⟨ok.zZ,λx hx=>?_,?_⟩
     ·rcases List.mem_or_eq_of_mem_set hx with hx | rfl
      ·exact ok.zt x hx
      ·rw [List.getElem?_eq_getElem il];have:=ok.zt _ (List.getElem_mem il);exact ⟨this.xu,this.ts,by show (0:Nat)<_;omega,this.dl⟩
     ·show (List.set _ _ _).length<=_;rw [List.length_set];exact ok.len
    ·cases h
   ·cases h;exact ok
theorem Yt {s:List UInt8} (hs:s.length=224):∀ (k a:Nat) (l:List Ol) (e:Nat),rh s k a=some (l,e)->(∀ o∈l,o.ok)/\l.length=k
 | 0,a,l,e,h=>by cases h;exact ⟨(λo ho=>nomatch ho),rfl⟩
 | k+1,a,l,e,h=>by
  unfold rh at h;cases ho:ry s a with
  | none=>rw [ho] at h;cases h
  | some x =>
   obtain ⟨o,b⟩:=x;rw [ho] at h;simp only at h;cases hr:rh s k b with
   | none=>rw [hr] at h;cases h
   | some y =>
    obtain ⟨l',e'⟩:=y;rw [hr] at h;simp only [Option.some.injEq,Prod.mk.injEq] at h;obtain ⟨rfl,rfl⟩:=h;obtain ⟨i1,i2⟩:=Yt hs k b l' e' hr;refine ⟨λo' rD=>?_,by rw [List.length_cons,i2]⟩;rcases List.mem_cons.1 rD with rfl | q
    ·exact (U9 hs ho).1
    ·exact i1 o' q
theorem iU {no:Nat} {s:List UInt8} {u:Un} (hs:s.length=224) (h:ua no s=some u):u.ok/\wZ u.zt=true:=by
 have hm:=av h;refine ⟨?_,hm⟩;unfold ua at h;split at h
 ·unfold eF at h;split at h
  ·cases h
  ·rename_i l' e ho;split at h
   ·cases h;obtain ⟨i1,i2⟩:=Yt hs _ _ _ _ ho;refine ⟨ib O_,i1,?_⟩;have:(s.getD 15 0).toNat<256:=UInt8.toNat_lt _;show l'.length<=_;omega
   ·cases h
 ·cases h
theorem VY {r:Rc} {p x:List UInt8} {zZ:Nat} (hp:p.length=224) (hl:zZ<18446744073709551616) (o:r.ok) (hm:r.may=true) (h1:r.k≠1) (h6:r.k≠6) (h:rA (r.zU,r.no.toNat) p zZ r=some x):x.length=224/\qr (r.zU,r.no.toNat) x=true:=by
 have Rp:r.no.toNat<65536:=by have:=o.no;omega
 obtain ⟨d1,d2,hk⟩:=za2 hm h1 h6;have eo:Rc.Zy r p=p:=by unfold Rc.Zy;rw [if_neg h1]
 rcases hk with ⟨hu,k2⟩ | ⟨hu,k2⟩
 ·rw [hu] at h ⊢;have h:ao r.no.toNat p zZ r=some x:=h;unfold ao at h;split at h
  ·cases h
  ·split at h
   ·cases h
   ·cases h;refine ⟨pL _,?_⟩;show (if (false:Bool)=true then _ else _)=true;rw [if_neg D_];refine decide_eq_true (Qd Rp ?_);unfold Pq;rw [if_pos k2];refine ⟨hl,by show r.ts.toNat<_;have:=o.ts;omega,by show r.pp.toNat<_;have:=o.pp;omega,?_⟩;show (wD _ _).2.length=64;unfold wD;refine oA _ _ _ _ _ ?_;refine (rZ ?_).body;rw [eo];exact hp
 ·rw [hu] at h ⊢;have h:tT r.no.toNat (Rc.Zy r p) zZ r=some x:=h;rw [eo] at h;unfold tT at h;cases hg:ua r.no.toNat p with
  | none=>rw [hg] at h;cases h
  | some u =>
   rw [hg] at h;obtain ⟨uo,um⟩:=iU hp hg;cases hs:t9 u r with
   | none=>simp only [hs] at h;cases h
   | some v =>
    simp only [hs] at h;cases h;have vm:=kq um hs;have vo:=Mt uo o O_ hs;refine ⟨pK (u:=⟨zZ,v.zt⟩) vm,?_⟩;have gp:=lz (u:=⟨zZ,v.zt⟩) Rp ⟨hl,vo.zt,vo.len⟩ vm;show (if (true:Bool)=true then _ else _)=true;rw [if_pos rfl];show (ua r.no.toNat (tg r.no.toNat ⟨zZ,v.zt⟩)).isSome=true;rw [gp];rfl
section
variable {h:AH} {p r:Nat} {n:cp} {f:ZO} {c:Ca} {ro:Ro}
theorem z36 (k:BsA h p n f c) (kr:jy h n.pr r ro) {i:vd} (hi:i.2<65536) {s:List UInt8} (hs:s.length=224) :
 z0q 93 [fD p,pV i,.agg (zd s)] h (xj TNo h (.yX []) λh'=>BsA h' p n f (uZ i s c ro).1/\jy h' n.pr r (uZ i s c ro).2):=by
 obtain ⟨b,no⟩:=i;cases b with
 | true=>exact z1Q k kr hi hs
 | false=>exact (z3l no hs _ h).mono λe h' q=>⟨q.1,q.2.1.sub rfl,k.zA q.2.1 rfl,kr.zA q.2.1 rfl⟩
end
theorem Ug {i:vd} {x:List UInt8} {c:Ca} {ro:Ro} (h:c.holds i x):(uZ i x c ro).1.holds i x:=by
 unfold uZ;split
 ·obtain ⟨j,h1,h2,h3,h4⟩:=h;unfold Ca.vQ;simp only [h1];exact ⟨j,h1,h2,h3,h4⟩
 ·exact h
abbrev Lh:xr:=[(0,138,0),(1,141,0),(2,43,3),(0,125,0),(1,4,0),(1,3,0),(0,179,0),(1,182,0),(1,184,0),(2,198,199),(1,211,0),(0,229,0),(1,50,0)]
structure Ca.room (c:Ca):Prop where
 dR:c.dR
 num:c.lg.num+1<4294960000
 fin:c.lg.fin<18446744073709000000
 zB:c.lg.zB.length+1<=900000
 xJ:c.lg.xJ.length<214
theorem ML (l:Lg) (s:List UInt8):(l.append s).2.d=l.d:=by
 have sp:∀ (m:Nat) (l:Lg),(Lg.tV m l).d=l.d:=by
  intro m;induction m with
  | zero=>intro l;rfl
  | succ m ih=>intro l;unfold Lg.tV;split;exact ih _;rfl
 unfold Lg.append;split
 ·rfl
 ·split
  ·rfl
  ·exact sp _ _
theorem ON {l:Lg} {s:List UInt8} (ea:(l.append s).1.2≠0):(l.append s).2=l:=by
 unfold Lg.append at ea ⊢;split
 ·rfl
 ·rename_i w1;rw [if_neg w1] at ea;split
  ·rfl
  ·rename_i w2;rw [if_neg w2] at ea;exact absurd rfl ea
theorem N5 {c:Ca} (o:c.ok) {i:vd} {x:List UInt8} (hh:c.holds i x):x.length=224:=by
 obtain ⟨j,y1,y2,y3,y4⟩:=hh;have:=o.fr (c.frame j) (by
  unfold Ca.frame;rw [List.getElem?_eq_getElem y2];exact List.getElem_mem y2)
 rw [<- y4];exact this.p
section
variable {h:AH} {p r:Nat} {n:cp} {f:ZO} {c:Ca} {ro:Ro}
abbrev ChQ (h0:AH) (p r:Nat) (n:cp) (f:ZO) (y:Int × Ca × Ro):yO->AH->Prop:=xj Lh h0 (.int .i64 y.1) λh'=>BsA h' p n f y.2.1/\jy h' n.pr r y.2.2
theorem YL {h0 h6:AH} {n1 n5:Nat} {c2:Ca} {i:vd} {x x':List UInt8} {r0 r':Rc} (hi:i.2<65536) (o':r'.ok) (oN:r'.may=true) (er:r'=c2.oC i r0 x') (q6:zb Lh h0 h6) (g6:h6.m n1=some (.cells true (.one 95) r'.v)) (l6:n1<h6.next) (f6:h6.m n5=some (.cells true (.one 33) (.agg (zd x')))) (l5:n5<h6.next) (kb6:BsA h6 p n f c2) (kr6:jy h6 n.pr r ro) (Oc:yF r'.v ([]++[1])=some (pV i))
 (b1:c2.lg.num<4294960000) (b2:c2.lg.fin<18446744073709000000) (b3:c2.lg.zB.length<=900000) (b4:c2.lg.xJ.length<214) (hh:c2.holds i x) (M2:x'.length=224/\qr i x'=true) :
 zbi (ChQ h0 p r n f (c2.kM i ro r0 x')) [(18,[j4 n.pc,pV i])] (fD p) (.ptr (some ⟨n1,.one 95,[]⟩)) (.int .i64 0) (VC n5) h6:=by
 unfold Ca.kM;rw [<- er];rw [B3];refine zl g6 K_ (w:=r'.v) rfl ?_;refine yf (rS r' o' h6) ?_;rw [show w9 r'=.yX [.str r'.enc,.int .i64 0] by unfold w9;rw [if_pos oN]];apply wj;apply wl;apply yb;refine zx K_ ?_;refine zl kb6.base K_ (w:=fM n.c.l) rfl ?_;obtain ⟨lv6,ka6⟩:=kb6.ca;refine xN (LP ka6.lg r'.enc (Cv oN o') b1 b2 b3 b4) λh7 q7 k7=>?_;have n7:=q7.next;have ka7:pT h7 n.pc n.c lv6 { c2 with lg:=(c2.lg.append r'.enc).2 }:=ka6.parts q7 rfl (ka6.dk.zA q7 rfl rfl rfl rfl) k7 (ka6.ck.zA q7 rfl rfl rfl) rfl (ML _ _) rfl;have Va:zb Lh h0 h7:=q6.trans (q7.sub rfl);have kb7:=kb6.pQ q7 rfl ⟨lv6,ka7⟩;have JU:=kr6.zA q7 rfl;have g7:=q7.at g6 l6 rfl;have f7:=q7.at f6 l5 rfl;refine z6 (show zm (z2v (c2.lg.append r'.enc).1) 0=some (.int .u64 (c2.lg.append r'.enc).1.1) from rfl) ?_;refine z6 (show zm (z2v (c2.lg.append r'.enc).1) 1=some (.int .i64 (c2.lg.append r'.enc).1.2) from rfl) ?_;by_cases ea:(c2.lg.append r'.enc).1.2=0
 case neg =>
  rw [if_neg ea];refine xe ea ?_;apply xz;have e9:({ c2 with lg:=(c2.lg.append r'.enc).2 }:Ca)=c2:=by rw [ON ea]
  rw [e9] at kb7;refine TR (i:=i) kb7.ca hh λh8 q8 k8=>?_;exact ⟨rfl,Va.trans (q8.sub rfl),kb7.pQ q8 rfl k8,JU.zA q8 rfl⟩
 rw [if_pos ea];refine yx ea ?_;apply yZ;refine sm (Cu ..) ?_;apply xy;refine ym K_ ?_;refine zY kb7.base K_ (w:=j4 n.pc) rfl ?_;refine ym K_ ?_;refine zY g7 K_ Oc ?_;refine zY f7 K_ (w:=.agg (zd x')) rfl ?_;obtain ⟨j,y1,y2,y3,y4⟩:=hh;refine xN (z7g ka7 i y1 y3 M2.1 (λh=>by
  have:=WA (i:=i) M2.1 hi h;rw [M2.2] at this;exact this)) λh8 q8 k8=>?_
 have n8:=q8.next;have hh8:({ c2 with lg:=(c2.lg.append r'.enc).2 }:Ca).holds i x:=⟨j,y1,y2,y3,y4⟩
 have e8:({ c2 with lg:=(c2.lg.append r'.enc).2 }:Ca).oL i x'={ { c2 with lg:=(c2.lg.append r'.enc).2 } with fr:=c2.fr.set j ((c2.frame j).put x') }:=by
  unfold Ca.oL;rw [show xI ({ c2 with lg:=(c2.lg.append r'.enc).2 }:Ca).at_ i=some j from y1];rfl
 have kb8:BsA h8 p n f (({ c2 with lg:=(c2.lg.append r'.enc).2 }:Ca).oL i x'):=by rw [e8];exact kb7.pQ q8 rfl ⟨lv6,k8⟩
 have kr8:=JU.zA q8 rfl;have g8:=q8.at g7 O_ rfl;have f8:=q8.at f7 O_ rfl;refine zx K_ ?_;refine zl g8 K_ Oc ?_;refine zl f8 K_ (w:=.agg (zd x')) rfl ?_;refine xN (z36 kb8 kr8 hi M2.1) λh9 q9 ⟨kb9,kr9⟩=>?_;refine TR (i:=i) kb9.ca (Ug (Tr hh8)) λh10 A5 V6=>?_;exact ⟨rfl,Va.trans ((q8.sub rfl).trans ((q9.sub rfl).trans (A5.sub rfl))),kb9.pQ A5 rfl V6,kr9.zA A5 rfl⟩
end
section
variable {h:AH} {p r:Nat} {n:cp} {f:ZO} {c:Ca} {ro:Ro}
theorem iq (k:BsA h p n f c) (kr:jy h n.pr r ro) (own:vx h) {rc:Rc} (o:rc.ok) (b:c.room) :
 z0q 40 [fD p,rc.v] h (ChQ h p r n f (c.yy ro rc)):=by
 have Rp:rc.no.toNat<65536:=by have:=o.no;omega
 have shr:=qO rc o.im;have hk1:=o.k;refine C40 _ _ _ _ ?_;refine zq (yl shr) λh1 u1=>?_;have n1:=u1.next;have q1:zb [] h h1:=zb.new u1;have f1:=u1.at_;have k1:=k.zA q1 rfl;have kr1:=kr.zA q1 rfl;have gk:yF rc.v ([]++[0])=some (.int .u8 rc.k):=rfl;have gpg:=Id o;refine z6 (N1 p) ?_;apply xc;refine zl f1 K_ (w:=rc.v) rfl ?_;refine yf (tE rc o.im h1) ?_;have bad:¬ (rc.may=true/\rc.k≠1/\rc.k≠6)->vy Pg dD (ChQ h p r n f (c.yy ro rc)) [.int .i64 1] [] none h1:=by
  intro g;have e:c.yy ro rc=(1,c,ro):=by unfold Ca.yy;rw [if_neg g]
  rw [e];refine yr (show jZ Pg h1 dD [.int .i64 1]=some [.int .i64 1] from rfl) ?_;exact ⟨rfl,q1.sub rfl,k1,kr1⟩
 by_cases hm:rc.may=true
 case neg =>
  have hm:rc.may=false:=by simpa using hm
  have bd:=bad (λg=>by rw [hm] at g;cases g.1);rw [hm];apply tv;refine sm (R9 ..) ?_;apply yi;apply tA;refine sm (WW ..) ?_;apply wc;apply tA;refine sm (z2s ..) ?_;apply wc;refine sm (C3 ..) ?_;apply xz;exact bd
 rw [hm];apply wq;refine sm (R9 ..) ?_;apply yi;apply xc;refine zx K_ ?_;refine zl f1 K_ gk ?_;by_cases c1:rc.k=1
 ·have bd:=bad (λg=>g.2.1 c1);refine xn c1 ?_;refine sm (WW ..) ?_;apply yi;apply tA;refine sm (z2s ..) ?_;apply wc;refine sm (C3 ..) ?_;apply xz;exact bd
 refine yB c1 ?_;refine sm (WW ..) ?_;apply yi;apply xc;refine zx K_ ?_;refine zl f1 K_ gk ?_;by_cases c6:rc.k=6
 ·have bd:=bad (λg=>g.2.2 c6);refine xn c6 ?_;refine sm (z2s ..) ?_;apply yi;refine sm (C3 ..) ?_;apply xz;exact bd
 refine yB c6 ?_;refine sm (z2s ..) ?_;apply yi;refine sm (C3 ..) ?_;apply yZ;refine sm (EV ..) ?_;apply xy;refine ym K_ ?_;refine zY k1.base K_ (w:=j4 n.pc) rfl ?_;refine ym K_ ?_;refine zY f1 K_ gpg ?_;obtain ⟨lv1,ka1⟩:=k1.ca;have okc:=ka1.ok;have okh:=ka1.ck.ok.hand;have ehx:c.yy ro rc=if (c.yh (rc.zU,rc.no.toNat)).1.2=0 then
  match rA (rc.zU,rc.no.toNat) (c.yh (rc.zU,rc.no.toNat)).1.1 (c.yh (rc.zU,rc.no.toNat)).2.lg.fin rc with
  | none=>(2,(c.yh (rc.zU,rc.no.toNat)).2.xm (rc.zU,rc.no.toNat),ro)
  | some x=>(c.yh (rc.zU,rc.no.toNat)).2.kM (rc.zU,rc.no.toNat) ro rc x
  else ((c.yh (rc.zU,rc.no.toNat)).1.2,(c.yh (rc.zU,rc.no.toNat)).2,ro):=by unfold Ca.yy;rw [if_pos ⟨hm,c1,c6⟩];try rfl
 have zdD:=λ(p:List UInt8) (zZ:Nat) (hp:p.length=224) (hl:zZ<18446744073709551616) (h:AH)=>z1N hp hl o hm c1 c6 h;have zdE:=λ(p x:List UInt8) (zZ:Nat) (hp:p.length=224) (hl:zZ<18446744073709551616) (e:rA (rc.zU,rc.no.toNat) p zZ rc=some x)=>VY hp hl o hm c1 c6 e;have jI:((rc.zU,rc.no.toNat):vd).2<65536:=Rp;rw [ehx];generalize ((rc.zU,rc.no.toNat):vd)=i at *;refine xN (Xm (i:=i) (rt:=qr i) (bl:=W6 i) ka1 (q1.own own) jI b.dR (λx h hx=>WA hx jI h) (λh=>WR jI h) (tO i)) λh2 q2 k2=>?_;have n2:=q2.next;have g2:=q2.at f1 O_ rfl;have BW:=k1.pQ q2 rfl k2;have kr2:=kr1.zA q2 rfl;have Jp:=mN (rt:=qr i) (bl:=W6 i) (i:=i) okc okh;have J3:=oJ (qr i) (W6 i) c i;have elg:=Ca.Rn (qr i) (W6 i) c i;unfold Ca.yh;generalize c.wA (qr i) (W6 i) i=ft at *;obtain ⟨⟨x,e⟩,c2⟩:=ft;simp only at Jp elg k2 BW J3 ⊢;obtain ⟨e1,e2,e3,e4,e5,e6,e7⟩:=elg;have br:=b.num;have bf:=b.fin;have bs:=b.zB;have bo:=b.xJ;refine zg (show zm (ZY (x,e)) 0=some (.agg (zd x)) from rfl) ?_;refine zg (show zm (ZY (x,e)) 1=some (.int .i64 e) from rfl) ?_;have Y5:vx h2:=q2.own (q1.own own);refine WY na (xf (zI 224)) (rE _ _) Y5 ?_;have u3:=vJ h2 (.cells true (.one 33) (.agg (zd (xM 224))));generalize h2.make (.cells true (.one 33) (.agg (zd (xM 224))))=h3 at u3 ⊢;have q3:zb [] h2 h3:=zb.new u3;have n3:=u3.next;have hx:x.length=224:=by
  by_cases e0:e=0
  ·exact N5 k2.ok (Jp e0)
  ·exact J3 e0
 refine zq (zM (p:=[]) u3.at_ K_ rfl (xf hx) rfl) λh4 u4=>?_;have q4:zb [] h2 h4:=q3.ya u4 (Nat.le_refl _);have n4:=u4.next;have g4:=q4.at g2 O_ rfl;have f4:=u4.at_;have kb4:=BW.zA q4 rfl;have JV:=kr2.zA q4 rfl;have mE:zb Lh h h4:=(q1.sub rfl).trans ((q2.sub rfl).trans (q4.sub rfl));by_cases e0:e=0
 case neg =>
  rw [if_neg e0];refine xe e0 ?_;apply xz;refine yr (show jZ Pg h4 dD [.int .i64 e]=some [.int .i64 e] from rfl) ?_;exact ⟨rfl,mE,kb4,JV⟩
 have hh:=Jp e0;subst e0;rw [if_pos rfl];refine yx D_ ?_;apply yZ;refine sm (H6 ..) ?_;apply xy;refine ym K_ ?_;refine zY kb4.base K_ (w:=j4 n.pc) rfl ?_;refine ym K_ ?_;refine zY g4 K_ gpg ?_;refine ym K_ ?_;refine zY g4 K_ gpg ?_;refine zY f4 K_ (w:=.agg (zd x)) rfl ?_;apply xy;refine ym K_ ?_;refine zY kb4.base K_ (w:=fM n.c.l) rfl ?_;obtain ⟨lv4,ka4⟩:=kb4.ca;refine ⟨_,As ka4.lg,?_⟩;refine zY g4 K_ (w:=rc.v) rfl ?_;have bent:zD Pg 97 [(0,.int .u64 c2.lg.fin),(1,rc.v)]=some (dI c2.lg.fin rc):=by
  refine uR [47,95] (show xk Pg 97=some (.agg [.int .u64 0,wT.rz 0]) from K_) K_ ?_;have h3:zf Pg (.int .u64 c2.lg.fin) 47=true:=K_;simp [xK,h3,shr]
 refine zg bent ?_;refine ⟨_,zdD x c2.lg.fin hx O_ h4,?_⟩;cases Jq:rA i x c2.lg.fin rc with
 | none =>
  simp only;refine zg (show zm (oe none) 0=some (.agg (zd (xM 224))) from rfl) ?_;refine zg (show zm (oe none) 1=some (.int .i64 2) from rfl) ?_;refine zq (zM (p:=[]) f4 K_ rfl (xf (zI 224)) rfl) λh5 u5=>?_;have q5:zb [(0,33,0)] h4 h5:=zb.vP u5 f4 rfl rfl;have kb5:=kb4.zA q5 rfl;have kr5:=JV.zA q5 rfl;refine xe D_ ?_;apply xz;refine TR (i:=i) kb5.ca hh λh6 q6 k6=>?_;exact ⟨rfl,(mE.ya u5 O_).trans (q6.sub rfl),kb5.pQ q6 rfl k6,kr5.zA q6 rfl⟩
 | some x' =>
  have M2:=zdE x x' c2.lg.fin hx O_ Jq;simp only;refine zg (show zm (oe (some x')) 0=some (.agg (zd x')) from rfl) ?_;refine zg (show zm (oe (some x')) 1=some (.int .i64 0) from rfl) ?_;refine zq (zM (p:=[]) f4 K_ rfl (xf M2.1) rfl) λh5 u5=>?_;have q5:zb [(0,33,0)] h4 h5:=zb.vP u5 f4 rfl rfl;have n5:=u5.next;have kb5:=kb4.zA q5 rfl;have kr5:=JV.zA q5 rfl;have g5:=q5.at g4 O_ rfl;have f5:=u5.at_;have dm:zb Lh h h5:=mE.ya u5 O_;refine yx D_ ?_;apply yZ;refine sm (C0 ..) ?_;obtain ⟨lv5,ka5⟩:=kb5.ca;apply xy;refine ym K_ ?_;refine zY kb5.base K_ (w:=j4 n.pc) rfl ?_;refine ym K_ ?_;refine zY g5 K_ gpg ?_;refine ⟨_,Ea ka5 i,?_⟩;cases hcl:c2.clean i with
  | true =>
   apply xz;refine zx K_ ?_;refine zl g5 K_ gpg ?_;refine zl f5 K_ (w:=.agg (zd x')) rfl ?_;refine z6 (E1 i M2.1) ?_;refine zq (zM (p:=[]) g5 K_ rfl (qO _ (W5 jI M2.1).im) rfl) λh6 u6=>?_;have q6:zb [(0,95,0)] h5 h6:=zb.vP u6 g5 rfl rfl;have n6:=u6.next;exact z7.of (YL (x:=x) (r0:=rc) jI (W5 jI M2.1) (Vl _ _) (by unfold Ca.oC;rw [hcl];rfl) (dm.ya u6 (Nat.le_refl _)) u6.at_ O_ (q6.at f5 O_ rfl) O_ (kb5.zA q6 rfl) (kr5.zA q6 rfl) (by rw [MU];rfl) O_ O_ O_ O_ hh M2)
  | false =>
   apply yZ;exact z7.of (YL (x:=x) (r0:=rc) jI o hm (by unfold Ca.oC;rw [hcl];rfl) dm g5 O_ f5 O_ kb5 kr5 gpg O_ O_ O_ O_ hh M2)
end
theorem OT (l:Sm) (k:Nat × Nat) (s:List UInt8) (b i:Nat):oZ (sV l k s) b i=if k=(b,i) then s else oZ l b i:=by
 unfold oZ;rw [YI];split <;> rfl
theorem Mg {x:List UInt8} (hx:x.length=256):tj x 0++(tj x 1++(tj x 2++(tj x 3++[])))=x:=by
 unfold tj;have e3:(x.drop (64*3)).take 64=x.drop 192:=List.take_of_length_le (by simp;omega);have e2:(x.drop (64*2)).take 64++x.drop 192=x.drop 128:=by
  have:=List.take_append_drop 64 (x.drop 128);rw [List.drop_drop] at this;exact this
 have e1:(x.drop (64*1)).take 64++x.drop 128=x.drop 64:=by
  have:=List.take_append_drop 64 (x.drop 64);rw [List.drop_drop] at this;exact this
 rw [e3,List.append_nil,e2,e1];exact List.take_append_drop 64 x
theorem Mh (l:Sm) (b:Nat):tu l b=oZ l b 0++(oZ l b 1++(oZ l b 2++(oZ l b 3++[]))):=rfl
theorem fQ {l:Sm} {b:Nat} {x:List UInt8} (hx:x.length=256) (b':Nat):tu (jS l b x 4) b'=if b'=b then x else tu l b':=by
 rw [Mh];simp only [jS,OT,Prod.mk.injEq];by_cases h:b'=b
 ·subst h;simp;have:=Mg hx;simpa using this
 ·have h':¬ (b=b'):=λe=>h e.symm;simp only [h,h',false_and,if_false];rfl
theorem PL {f:Nat->List UInt8} {w:Nat} (hf:∀ i,i<4->(f i).length=w) {i:Nat} (hi:i<4) {k n:Nat} (h:k+n<=w):(((List.range 4).flatMap f).drop (w*i+k)).take n=((f i).drop k).take n:=by
 have h0:=hf 0 D_;have h1:=hf 1 D_;have h2:=hf 2 D_;have h3:=hf 3 D_;have e:(List.range 4).flatMap f=f 0++(f 1++(f 2++(f 3++[]))):=rfl;have tk:∀ (a b:List UInt8),a.length=w->(((a++b).drop k).take n)=((a.drop k).take n):=by
  intro a b ha;rw [List.drop_append_of_le_length O_,List.take_append_of_le_length (by simp;omega)]
 have dr:∀ (a b:List UInt8) (m:Nat),a.length=w->(a++b).drop (w+m)=b.drop m:=by
  intro a b m ha;rw [List.drop_append,List.drop_eq_nil_of_le O_,List.nil_append,ha,show w+m-w=m by omega]
 rw [e];rcases (show i=0\/i=1\/i=2\/i=3 from O_) with rfl | rfl | rfl | rfl
 ·rw [show w*0+k=k by omega,tk _ _ h0]
 ·rw [show w*1+k=w+k by omega,dr _ _ _ h0,tk _ _ h1]
 ·rw [show w*2+k=w+(w+k) by omega,dr _ _ _ h0,dr _ _ _ h1,tk _ _ h2]
 ·rw [show w*3+k=w+(w+(w+k)) by omega,dr _ _ _ h0,dr _ _ _ h1,dr _ _ _ h2,tk _ _ h3]
theorem iP {st:Nat} {p:List UInt8} (hp:p.length=224) {i:Nat} (hi:i<4):OQ (wN st p) i=AG p i:=by
 have:=PL (f:=VX st p) (w:=64) (λi hi=>Zk hp hi) hi (k:=0) (n:=56) D_;unfold OQ wN pC;rw [Nat.add_zero] at this;rw [this];unfold VX;rw [List.drop_zero,List.take_append_of_le_length (by rw [lQ hp hi];exact Nat.le_refl _),List.take_of_length_le (by rw [lQ hp hi];exact Nat.le_refl _)]
theorem nY {st:Nat} {p:List UInt8} (hp:p.length=224) {i:Nat} (hi:i<4):oP (wN st p) i=PE st:=by
 have:=PL (f:=VX st p) (w:=64) (λi hi=>Zk hp hi) hi (k:=56) (n:=8) D_;unfold oP wN pC;rw [this];unfold VX;rw [List.drop_append,lQ hp hi,List.drop_eq_nil_of_le (by rw [lQ hp hi];exact Nat.le_refl _),List.nil_append,Nat.sub_self,List.drop_zero,List.take_of_length_le (by rw [cB];exact Nat.le_refl _)]
theorem Mc {st:Nat} {p:List UInt8} (hp:p.length=224):NV (wN st p):=by
 unfold NV Xi;rw [nY hp D_,nY hp D_,nY hp D_,nY hp D_];exact ⟨rfl,rfl,rfl⟩
theorem LM {st:Nat} {p:List UInt8} (hp:p.length=224):Ys (wN st p) 4=p:=by
 unfold Ys;have e:(List.range 4).flatMap (OQ (wN st p))=OQ (wN st p) 0++(OQ (wN st p) 1++(OQ (wN st p) 2++(OQ (wN st p) 3++[]))):=rfl;rw [e,iP hp D_,iP hp D_,iP hp D_,iP hp D_];unfold AG;have e3:(p.drop (56*3)).take 56=p.drop 168:=List.take_of_length_le (by simp;omega);have e2:(p.drop (56*2)).take 56++p.drop 168=p.drop 112:=by
  have:=List.take_append_drop 56 (p.drop 112);rw [List.drop_drop] at this;exact this
 have e1:(p.drop (56*1)).take 56++p.drop 112=p.drop 56:=by
  have:=List.take_append_drop 56 (p.drop 56);rw [List.drop_drop] at this;exact this
 have e0:xM (224-56*4)=[]:=rfl;rw [e3,e0,List.append_nil,List.append_nil,e2,e1];exact List.take_append_drop 56 p
theorem YV {rt:List UInt8->Bool} {bl:List UInt8} {st:Nat} {p:List UInt8} (hp:p.length=224) (hr:rt p=true):(vf rt bl (wN st p)).1=p:=by
 unfold vf;rw [LM hp,if_pos ⟨Mc hp,hr⟩]
theorem YX {l:List Nat} (h:∀ x∈l,x=0) (j:Nat):l.getD j 0=0:=by
 rw [List.getD_eq_getElem?_getD];cases hq:l[j]? with
 | none=>rfl
 | some x=>exact h x (List.mem_of_getElem? hq)
theorem Wb {c:Ck} (h:c.hand<c.n):c.step.hand<c.step.n:=by
 show (if c.hand+1=c.n then 0 else c.hand+1)<c.n;split <;> omega
theorem Ck.Xd:∀ (m:Nat) (c:Ck),c.hand<c.n->c.seen.length=c.n->(∀ x∈c.pins,x=0)->c.seen.count true<m->∃ j,(Ck.mD m c).1=some j
 | 0,c,_,_,_,hm=>by omega
 | m+1,c,hh,hs,hp,hm=>by
  have p0:c.pins.getD c.hand 0=0:=YX hp _;unfold Ck.mD;rw [if_neg O_];by_cases g:c.seen.getD c.hand false=true
  ·rw [if_pos g];have hl:c.hand<c.seen.length:=O_;have ge:c.seen[c.hand]=true:=by
    rw [List.getD_eq_getElem?_getD,List.getElem?_eq_getElem hl] at g;exact g
   have hc:0<c.seen.count true:=List.count_pos_iff.2 (ge▸List.getElem_mem hl);refine Ck.Xd m { c.step with seen:=c.seen.set c.hand false } (Wb hh) ?_ hp ?_
   ·show (c.seen.set c.hand false).length=c.n;rw [List.length_set];exact hs
   ·show (c.seen.set c.hand false).count true<m;rw [List.count_set hl,ge];simp;omega
  ·rw [if_neg g];exact ⟨_,rfl⟩
theorem Ck.eC:∀ (m:Nat) (c:Ck),(Ck.gj m c).2.seen=c.seen/\(Ck.gj m c).2.vQ=c.vQ
 | 0,c=>⟨rfl,rfl⟩
 | m+1,c=>by
  unfold Ck.gj;split
  ·exact ⟨rfl,rfl⟩
  ·exact Ck.eC m c.step
theorem Ck.ZA:∀ (m:Nat) (c:Ck),c.hand<c.n->(Ck.mD m c).2.seen.length=c.seen.length/\(Ck.mD m c).2.vQ=c.vQ/\(Ck.mD m c).2.hand<c.n
 | 0,c,h=>⟨rfl,rfl,h⟩
 | m+1,c,h=>by
  unfold Ck.mD;split
  ·exact Ck.ZA m c.step (Wb h)
  ·split
   ·obtain ⟨a1,a2,a3⟩:=Ck.ZA m { c.step with seen:=c.seen.set c.hand false } (Wb h);exact ⟨a1.trans (List.length_set ..),a2,a3⟩
   ·exact ⟨rfl,rfl,Wb h⟩
theorem Ck.T9 {c:Ck} (hh:c.hand<c.n) (hs:c.seen.length=c.n) (hp:∀ x∈c.pins,x=0):∃ j,c.yE.1=some j:=by
 obtain ⟨a1,a2,a3,a4⟩:=Ck.kL c.n c hh;obtain ⟨s1,s2⟩:=Ck.eC c.n c;unfold Ck.yE;split
 ·exact ⟨_,rfl⟩
 ·rename_i c' e;rw [e] at a1 a2 a3 s1;have a1:c'.n=c.n:=a1;have a2:c'.pins=c.pins:=a2;have a3:c'.hand<c.n:=a3;have s1:c'.seen=c.seen:=s1;refine Ck.Xd _ c' O_ (by rw [s1];omega) (by rw [a2];exact hp) ?_;have:=List.count_le_length (a:=true) (l:=c'.seen);rw [s1] at this ⊢;omega
theorem Ck.Rq {c:Ck} (hh:c.hand<c.n):c.yE.2.hand<c.n/\c.yE.2.seen.length=c.seen.length:=by
 obtain ⟨a1,a2,a3,a4⟩:=Ck.kL c.n c hh;obtain ⟨s1,s2⟩:=Ck.eC c.n c;unfold Ck.yE;split
 ·rename_i i c' e;rw [e] at a3 s1;exact ⟨a3,by rw [show c'.seen=c.seen from s1]⟩
 ·rename_i c' e;rw [e] at a1 a3 s1;have a1:c'.n=c.n:=a1;have a3:c'.hand<c.n:=a3;have s1:c'.seen=c.seen:=s1;obtain ⟨b1,b2,b3⟩:=Ck.ZA (2*c.n) c' O_;exact ⟨O_,by rw [b1,s1]⟩
def Lg.new (d at_ size ep num fin:Nat):Lg:=⟨d,at_,size,ep,[],[],[],num,fin,fin,true⟩
section
variable {h:AH} {p:Nat} {d:Dk}
theorem C9 (k:qf h p d) {a s:Nat} (h1:1<=s) (h2:a+s<=d.n):z0q 122 [pU p,.int .i64 a,.int .i64 s] h (zO (.bool true) h):=by
 have ok:=k.ok.n;refine C122 _ _ _ _ _ ?_;refine z6 (show zi Pg .neq 23 (.ptr (some _)) (.ptr none) true=some (.bool true) from K_) ?_;apply sE;refine rj O_ ?_;refine sm (z2G ..) ?_;apply wc;apply sE;refine rj O_ ?_;refine sm (z3L ..) ?_;apply wc;apply sE;refine yf (So k) ?_;refine lu O_ ?_;refine sm (z20 ..) ?_;apply wc;apply sE;refine yf (So k) ?_;refine rQ O_ O_ ?_;refine lu O_ ?_;refine sm (z41 ..) ?_;apply wc;refine sm (HO ..) ?_;exact ⟨rfl,rfl⟩
theorem z9U (k:qf h p d) {a s ep num fin:Nat} (h1:1<=s) (h2:a+s<=d.n) (hep:ep<4294967296) (Jg:num<4294967296) (gc:fin<18446744073709551616) :
 z0q 98 [pU p,.int .i64 a,.int .i64 s,.int .u32 ep,.y8 none 0,.int .u32 num,.int .u64 fin] h (fE [] h fM λq h'=>gR h' q (Lg.new p a s ep num fin)):=by
 have ok:=k.ok.n;refine C98 _ _ _ _ _ _ _ _ _ ?_;refine yf (C9 k h1 h2) ?_;apply wq;apply xc;refine jX K_ ?_;refine xA O_ ?_;refine sm (iJ ..) ?_;apply yi;refine sm (Ey ..) ?_;apply yZ;refine sm (Ex ..) ?_;refine jX K_ ?_;refine ⟨1,z7.of ?_⟩;rw [z4r];refine yD O_ ?_;apply yZ;refine sm (z4Q ..) ?_;refine ze (show zr Pg h .append [176,176] [.y8 none 0,.y8 none 0]=some (.y8 none 0,h) from K_) ?_;refine z6 (show zD Pg 179 [(0,pU p),(1,.int .i64 a),(2,.int .i64 s),(3,.int .u32 ep),(4,.y8 none 0),(7,.int .u32 num),(8,.int .u64 fin),(9,.int .u64 fin),(10,.bool true)]=some (Oo (Lg.new p a s ep num fin) (.y8 none 0) (.y8 none 0)) from K_) ?_;refine zq (yl (show zf Pg (Oo (Lg.new p a s ep num fin) (.y8 none 0) (.y8 none 0)) 179=true from K_)) λnF u1=>?_;have n1:=u1.next;refine ⟨h.next,rfl,Nat.le_refl _,zb.new u1,.y8 none 0,.y8 none 0,u1.at_,.inl ⟨rfl,rfl⟩,.inl ⟨rfl,rfl⟩,O_,?_⟩;refine ⟨by show a<=_;omega,by show s<=_;omega,hep,by simp [Lg.new],by simp [Lg.new],by simp [Lg.new],Jg,gc,gc,by simp [Lg.new]⟩
def Ca.new (d:Dk) (l:Lg) (Rr zH zU:Nat):Ca:=⟨d,l,Ck.new Rr,zH,zU,[],Rr,[]⟩
theorem zc1 {q:Nat} {l:Lg} (k:qf h p d) (kl:gR h q l) (hl:l.d=p) (own:vx h) {f pg un:Nat} (h1:4<=f/\f<=32) (h2:1<=pg/\pg<=16) (h3:1<=un/\un<=32) (h4:2+pg+un<=d.n) :
 z0q 99 [pU p,fM q,.int .i64 f,.int .i64 pg,.int .i64 un] h (fE [] h j4 λpc h'=>∃ n:ZD,n.d=p/\n.l=q/\gF h' pc n (Ca.new d l f pg un)):=by
 have ok:=k.ok.n;refine C99 _ _ _ _ _ _ _ ?_;refine z6 (show zi Pg .eql 23 (.ptr (some _)) (.ptr none) true=some (.bool false) from K_) ?_;apply xc;refine z6 (show zi Pg .eql 83 (.ptr (some _)) (.ptr none) true=some (.bool false) from K_) ?_;refine sm (Pb ..) ?_;apply yi;apply xc;refine yD O_ ?_;refine sm (Fq ..) ?_;apply yi;apply xc;refine xA O_ ?_;refine sm (Br ..) ?_;apply yi;apply xc;refine yD O_ ?_;refine sm (Q2 ..) ?_;apply yi;apply xc;refine xA O_ ?_;refine sm (Hz ..) ?_;apply yi;apply xc;refine yD O_ ?_;refine sm (Hj ..) ?_;apply yi;apply xc;refine xA O_ ?_;refine sm (Dm ..) ?_;apply yi;apply xc;refine zE O_ O_ ?_;refine zE O_ O_ ?_;refine yf (So k) ?_;refine xA O_ ?_;refine sm (CD ..) ?_;apply yi;refine sm (z4s ..) ?_;apply yZ;refine sm (z4D ..) ?_;refine z6 (show bQ Pg 83 (fM q)=some (.mB 83 (fM q)) from K_) ?_;refine Uh (zal (n:=f) O_ O_ own) λkk nF l1 q1 ⟨s,c,e,kc⟩=>?_;refine zq (KB Dg) λh2' u2=>?_;have n2:=u2.next;have q2:zb [] nF h2':=zb.new u2;have e0:(Ca.new d l f pg un).ck.n=f:=by simp [Ca.new,Ck.new,Ck.n]
 refine z6 (show zD Pg 138 [(0,pU p),(1,.mB 83 (fM q)),(2,gx kk),(3,.int .i64 pg),(4,.int .i64 un),(6,.int .i64 f),(7,.map (some nF.next))]=some (caV (Ca.new d l f pg un) ⟨p,q,kk,s,c,e,nF.next⟩ (.y8 none 0)) from K_) ?_;refine zq (yl (show zf Pg (caV (Ca.new d l f pg un) ⟨p,q,kk,s,c,e,nF.next⟩ (.y8 none 0)) 138=true from K_)) λY4 u3=>?_;have n3:=u3.next;have q3:zb [] h2' Y4:=zb.new u3;have NN:=q2.trans q3;have qq:=q1.trans NN;have:=q1.next;refine ⟨h2'.next,rfl,O_,qq,⟨p,q,kk,s,c,e,nF.next⟩,rfl,rfl,.y8 none 0,u3.at_,.inl ⟨rfl,rfl⟩,q3.at u2.at_ (show nF.next<h2'.next from O_) rfl,k.zA qq rfl rfl rfl rfl,kl.zA qq rfl rfl rfl,kc.zA NN rfl rfl rfl,⟨O_,(show nF.next<Y4.next from O_)⟩,hl,?_⟩;refine ⟨h2,h3,⟨e0,h1⟩,by simp [Ca.new],(λf hf=>by simp [Ca.new] at hf),(λf hf=>by simp [Ca.new] at hf),λk i=>?_,trivial,h4⟩;simp [Ca.new,xI,vB]
end
section
set_option maxRecDepth 100000
noncomputable section
variable (Q:yO->AH->Prop) (ds:List AD) (n n1 n2:Nat) (h:AH)
end
end
structure Dk.wG (d:Dk):Prop where
 uT:d.uT=0
 down:d.down=false
 ug:∀ i,d.ug i=false
theorem Dk.wG.op {d:Dk} (f:d.wG):d.op=(0,{ d with ops:=d.ops+1 }):=by
 unfold Dk.op;rw [if_neg (by rw [f.uT];omega),if_neg (by rw [f.ug];decide)]
theorem Dk.wG.write {d:Dk} (f:d.wG) {b:Nat} (hb:b<d.n) (x:List UInt8):d.write (b:Int) x=(0,({ d with ops:=d.ops+1 }:Dk).put b x 4):=by
 unfold Dk.write;rw [if_neg (by rw [f.down];decide),if_neg O_,f.op,if_neg S_,show ((b:Nat):Int).toNat=b by omega]
theorem Dk.wG.put {d:Dk} (f:d.wG) (n b:Nat) (x:List UInt8) (i:Nat):(({ d with ops:=n }:Dk).put b x i).wG:=⟨f.uT,f.down,f.ug⟩
theorem Dk.wG.sync {d:Dk} (f:d.wG):d.sync=(0,({ d with ops:=d.ops+1 }:Dk).settle [] true):=by
 unfold Dk.sync;rw [if_neg (by rw [f.down];decide),f.op,if_neg S_]
structure Dk.fresh (d:Dk):Prop where
 wG:d.wG
 n:d.n=89
 ops:d.ops<=100
 zT:d.zT=[]
section
variable {h0:AH} {pd fr:Nat}
end
def Dk.live (d:Dk):Prop:=d.uT<1/\d.down=false
def Dk.uh (d:Dk) (e:Int):Prop:=(d.live->e=0\/e=3)/\(d.wG->e=0)
theorem Dk.oD (d:Dk):d.uh 0:=⟨λ_=>.inl rfl,λ_=>rfl⟩
theorem Dk.wG.live {d:Dk} (f:d.wG):d.live:=⟨by rw [f.uT];decide,f.down⟩
structure Dk.to (P:Nat->Prop) (d d':Dk):Prop where
 n:d'.n=d.n
 seen:∀ b,¬ P b->tu d'.seen b=tu d.seen b
 ok:pY d.seen->pY d'.seen
 uT:d'.uT=d.uT
 ug:d'.ug=d.ug
 live:d.live->d'.down=false
theorem Dk.to.refl (P:Nat->Prop) (d:Dk):Dk.to P d d:=⟨rfl,λ_ _=>rfl,id,rfl,rfl,λl=>l.2⟩
theorem Dk.to.liv {P:Nat->Prop} {d d':Dk} (t:Dk.to P d d') (l:d.live):d'.live:=⟨by rw [t.uT];exact l.1,t.live l⟩
theorem Dk.to.wG {P:Nat->Prop} {d d':Dk} (t:Dk.to P d d') (l:d.wG):d'.wG:=⟨by rw [t.uT];exact l.uT,t.live l.live,λi=>by rw [t.ug];exact l.ug i⟩
theorem Dk.to.uh {P:Nat->Prop} {d d':Dk} (t:Dk.to P d d') {e:Int} (h:d'.uh e):d.uh e:=⟨λl=>h.1 (t.liv l),λl=>h.2 (t.wG l)⟩
theorem Dk.to.trans {P:Nat->Prop} {d d' d'':Dk} (t:Dk.to P d d') (u:Dk.to P d' d''):Dk.to P d d'' :=
 ⟨u.n.trans t.n,λb h=>(u.seen b h).trans (t.seen b h),λh=>u.ok (t.ok h),u.uT.trans t.uT,u.ug.trans t.ug,λl=>u.live (t.liv l)⟩
theorem Dk.to.mono {P Q:Nat->Prop} {d d':Dk} (t:Dk.to P d d') (h:∀ b,P b->Q b):Dk.to Q d d':=⟨t.n,λb q=>t.seen b λp=>q (h b p),t.ok,t.uT,t.ug,t.live⟩
theorem Dk.Jr (P:Nat->Prop) (d:Dk):Dk.to P d d.op.2/\d.uh d.op.1:=by
 unfold Dk.op;by_cases h:1<=d.uT/\((d.ops+1:Nat):Int)=d.uT
 ·rw [if_pos h];exact ⟨⟨rfl,λ_ _=>rfl,id,rfl,rfl,λl=>absurd h.1 (by have:=l.1;omega)⟩,λl=>absurd h.1 (by have:=l.1;omega),λf=>absurd h.1 (by have:=f.uT;omega)⟩
 ·rw [if_neg h];by_cases g:d.ug ((d.ops+1:Nat):Int)=true
  ·rw [if_pos g];exact ⟨⟨rfl,λ_ _=>rfl,id,rfl,rfl,λl=>l.2⟩,λl=>.inr rfl,λf=>absurd g (by rw [f.ug];decide)⟩
  ·rw [if_neg g];exact ⟨⟨rfl,λ_ _=>rfl,id,rfl,rfl,λl=>l.2⟩,Dk.oD d⟩
theorem Dk.Ta {d:Dk} {b:Nat} {x:List UInt8} (hb:b<d.n) (hx:x.length=256):Dk.to (λm=>m=b) d (d.write (b:Int) x).2/\d.uh (d.write (b:Int) x).1/\((d.write (b:Int) x).1=0->tu (d.write (b:Int) x).2.seen b=x)/\((d.write (b:Int) x).1≠0->(d.write (b:Int) x).2.seen=d.seen):=by
 obtain ⟨o1,o2⟩:=d.Jr (λm=>m=b);unfold Dk.write;by_cases hd:d.down=true
 ·rw [if_pos hd];exact ⟨Dk.to.refl _ _,⟨λl=>absurd hd (by rw [l.2];decide),λl=>absurd hd (by rw [l.down];decide)⟩,λe=>absurd e (show ¬ (4:Int)=0 from D_),λ_=>rfl⟩
 ·rw [if_neg hd,if_neg O_];by_cases h0:d.op.1≠0
  ·rw [if_pos h0];exact ⟨o1,o2,λe=>absurd e h0,λ_=>Dk.gh d⟩
  ·rw [if_neg h0,show ((b:Nat):Int).toNat=b by omega];refine ⟨⟨o1.n,λm hm=>?_,λh=>?_,o1.uT,o1.ug,o1.live⟩,Dk.oD d,λ_=>?_,λe=>absurd rfl e⟩
   ·show tu (jS d.op.2.seen b x 4) m=_;rw [fQ hx,if_neg hm,Dk.gh]
   ·show pY (jS d.op.2.seen b x 4);exact UM (o1.ok h) b hx 4 (Nat.le_refl _)
   ·show tu (jS d.op.2.seen b x 4) b=x;rw [fQ hx,if_pos rfl]
theorem Dk.Of (d:Dk):Dk.to (λ_=>False) d d.sync.2/\d.uh d.sync.1/\d.sync.2.seen=d.seen:=by
 obtain ⟨o1,o2⟩:=d.Jr (λ_=>False);unfold Dk.sync;by_cases hd:d.down=true
 ·rw [if_pos hd];exact ⟨Dk.to.refl _ _,⟨λl=>absurd hd (by rw [l.2];decide),λl=>absurd hd (by rw [l.down];decide)⟩,rfl⟩
 ·rw [if_neg hd];by_cases h0:d.op.1≠0
  ·rw [if_pos h0];exact ⟨o1,o2,Dk.gh d⟩
  ·rw [if_neg h0];exact ⟨⟨o1.n,o1.seen,o1.ok,o1.uT,o1.ug,o1.live⟩,Dk.oD d,Dk.gh d⟩
theorem Dk.A7 {d:Dk} {b:Nat} (hb:b<d.n):Dk.to (λ_=>False) d (d.read (b:Int)).2.2/\d.uh (d.read (b:Int)).2.1/\((d.read (b:Int)).2.1=0->(d.read (b:Int)).1=tu d.seen b):=by
 obtain ⟨o1,o2⟩:=d.Jr (λ_=>False);unfold Dk.read;by_cases hd:d.down=true
 ·rw [if_pos hd];exact ⟨Dk.to.refl _ _,⟨λl=>absurd hd (by rw [l.2];decide),λl=>absurd hd (by rw [l.down];decide)⟩,λe=>absurd e (show ¬ (4:Int)=0 from D_)⟩
 ·rw [if_neg hd,if_neg O_];by_cases h0:d.op.1≠0
  ·rw [if_pos h0];exact ⟨o1,o2,λe=>absurd e h0⟩
  ·rw [if_neg h0,show ((b:Nat):Int).toNat=b by omega];exact ⟨o1,Dk.oD d,λ_=>rfl⟩
def Lg.dS (l:Lg) (b:Nat):Prop:=l.at_<=b/\b<l.at_+l.size
theorem Lg.Og {l:Lg} (hs:1<=l.size):∀ (cs:List Ch) (d:Dk),l.at_+l.size<=d.n->(∀ c∈cs,c.ok)->Dk.to l.dS d (l.pP cs d).2/\d.uh (l.pP cs d).1
 | [],d,_,_=>⟨Dk.to.refl _ _,Dk.oD d⟩
 | c :: cs,d,hn,hc=>by
  have hm:=Nat.mod_lt c.num hs;obtain ⟨w1,w2,w3⟩:=Dk.Ta (d:=d) (b:=l.at_+c.num%l.size) (x:=sj c) O_ (fj (hc c (List.mem_cons_self ..)));have w1':Dk.to l.dS d (d.write ((l.at_+c.num%l.size:Nat):Int) (sj c)).2:=w1.mono λb e=>⟨O_,O_⟩
  unfold Lg.pP;split
  ·exact ⟨w1',w2⟩
  ·obtain ⟨r1,r2⟩:=Lg.Og hs cs (d.write ((l.at_+c.num%l.size:Nat):Int) (sj c)).2 (by rw [w1.n];exact hn) (λx hx=>hc x (List.mem_cons_of_mem _ hx));exact ⟨w1'.trans r1,w1'.uh r2⟩
theorem Lg.Xe {l:Lg} (hs:1<=l.size) (cs:List Ch) (d:Dk) (hn:l.at_+l.size<=d.n) (hc:∀ c∈cs,c.ok):Dk.to l.dS d (l.wF cs d).2/\d.uh (l.wF cs d).1:=by
 obtain ⟨r1,r2⟩:=Lg.Og hs cs d hn hc;unfold Lg.wF;split
 ·exact ⟨r1,r2⟩
 ·split
  ·exact ⟨r1,Dk.oD d⟩
  ·obtain ⟨s1,s2,_⟩:=(l.pP cs d).2.Of;exact ⟨r1.trans (s1.mono λ_ h=>h.elim),r1.uh s2⟩
def Lg.blocks (l:Lg):Nat:=l.yn.length+l.zB.length+if l.xJ=[] then 0 else 1
structure Lg.lL (l:Lg):Prop where
 size:1<=l.size/\l.size<=2000
 xJ:l.xJ.length<214
 chs:∀ c∈l.zB,c.ok
 num:l.num=l.yn.length+l.zB.length
 cap:l.blocks<=l.size
 ep:l.ep<4294967296
 fin:l.fin<1000000000000
structure Lg.as (l l':Lg):Prop where
 d:l'.d=l.d
 at_:l'.at_=l.at_
 size:l'.size=l.size
 ep:l'.ep=l.ep
 fin:l'.fin=l.fin
 blocks:l'.blocks=l.blocks
theorem Lg.as.refl (l:Lg):l.as l:=⟨rfl,rfl,rfl,rfl,rfl,rfl⟩
theorem Lg.as.trans {a b c:Lg} (h:a.as b) (g:b.as c):a.as c:=⟨g.d.trans h.d,g.at_.trans h.at_,g.size.trans h.size,g.ep.trans h.ep,g.fin.trans h.fin,g.blocks.trans h.blocks⟩
theorem Lg.lL.le {l:Lg} (t:l.lL):l.yn.length+l.zB.length<=2000:=by
 have h1:=t.cap;have h2:=t.size;unfold Lg.blocks at h1;omega
theorem Lg.Rs {l:Lg} (t:l.lL):l.close.lL/\l.as l.close/\l.close.xJ=[]:=by
 unfold Lg.close;by_cases h:l.xJ=[]
 ·rw [if_pos h];exact ⟨t,Lg.as.refl l,h⟩
 ·rw [if_neg h];have hp:1<=l.xJ.length:=List.length_pos_iff.2 h;have e0:l.xJ.drop l.xJ.length=[]:=List.drop_eq_nil_of_le (Nat.le_refl _);have hb:(l.z0x l.xJ.length).blocks=l.blocks:=by
   unfold Lg.blocks;show l.yn.length+(l.zB++[_]).length+(if l.xJ.drop l.xJ.length=[] then 0 else 1)=_;rw [if_pos e0,if_neg h];simp;omega
  have tl:=t.le;have tn:=t.num;have tf:=t.fin;have to_:=t.xJ;refine ⟨⟨t.size,?_,λc hc=>?_,?_,?_,t.ep,t.fin⟩,⟨rfl,rfl,rfl,rfl,rfl,hb⟩,e0⟩
  ·show (l.xJ.drop l.xJ.length).length<214;rw [e0];decide
  ·rcases List.mem_append.1 (show c∈l.zB++[_] from hc) with q | q
   ·exact t.chs c q
   ·rw [List.mem_singleton] at q;subst q;refine ⟨t.ep,by show l.num<_;omega,by show l.fin-l.xJ.length<_;omega,?_⟩;show 1<=(l.xJ.take l.xJ.length).length/\(l.xJ.take l.xJ.length).length<=214;rw [List.take_length];omega
  ·show l.num+1=l.yn.length+(l.zB++[_]).length;simp;omega
  ·rw [hb];exact t.cap
theorem Lg.dA {l:Lg} (t:l.lL) (ho:l.xJ=[]) (cs:List Ch) (hc:∀ c∈cs,c.ok) (d:Dk) (hn:l.at_+l.size<=d.n):(l.ti cs d).2.1.lL/\l.as (l.ti cs d).2.1/\Dk.to l.dS d (l.ti cs d).2.2/\d.uh (l.ti cs d).1:=by
 obtain ⟨r1,r2⟩:=Lg.Xe t.size.1 cs d hn hc;unfold Lg.ti;by_cases h:(l.wF cs d).1≠0
 ·rw [if_pos h];exact ⟨t,Lg.as.refl l,r1,r2⟩
 ·rw [if_neg h];have hb:l.laid.blocks=l.blocks:=by
   unfold Lg.blocks Lg.laid;simp
  refine ⟨⟨t.size,t.xJ,λc hc=>(nomatch hc),?_,by rw [hb];exact t.cap,t.ep,t.fin⟩,⟨rfl,rfl,rfl,rfl,rfl,hb⟩,r1,Dk.oD d⟩;have:=t.num;show l.num=(l.yn++l.zB.map pZ).length+0;simp;exact this
theorem Lg.Rt {l:Lg} (t:l.lL) (d:Dk) (hn:l.at_+l.size<=d.n):(l.flush d).2.1.lL/\l.as (l.flush d).2.1/\Dk.to l.dS d (l.flush d).2.2/\d.uh (l.flush d).1:=by
 obtain ⟨ct,ca,co⟩:=Lg.Rs t;have em:l.close.dS=l.dS:=by unfold Lg.dS;rw [ca.at_,ca.size]
 have qA:l.close.at_+l.close.size<=d.n:=by rw [ca.at_,ca.size];exact hn
 have key:(l.close.uu d).2.1.lL/\l.close.as (l.close.uu d).2.1/\Dk.to l.close.dS d (l.close.uu d).2.2/\d.uh (l.close.uu d).1:=by
  generalize l.close=k at ct co qA ⊢;unfold Lg.uu;by_cases h0:k.zB=[]
  ·rw [if_pos h0];exact ⟨ct,Lg.as.refl k,Dk.to.refl _ _,Dk.oD d⟩
  ·rw [if_neg h0];by_cases h1:k.fresh=false
   ·rw [if_pos h1];exact Lg.dA ct co k.zB ct.chs d qA
   ·rw [if_neg h1];have hc1:∀ c∈k.zB.take 1,c.ok:=λc hc=>ct.chs c (List.mem_of_mem_take hc);have Tg:∀ c∈k.zB.drop 1,c.ok:=λc hc=>ct.chs c (List.mem_of_mem_drop hc);obtain ⟨r1,r2⟩:=Lg.Xe ct.size.1 (k.zB.take 1) d qA hc1;by_cases h2:(k.wF (k.zB.take 1) d).1≠0
    ·rw [if_pos h2];exact ⟨ct,Lg.as.refl k,r1,r2⟩
    ·rw [if_neg h2];have ct':({ k with fresh:=false }:Lg).lL:=⟨ct.size,ct.xJ,ct.chs,ct.num,ct.cap,ct.ep,ct.fin⟩
     obtain ⟨s1,s2,s3,s4⟩:=Lg.dA ct' co (k.zB.drop 1) Tg (k.wF (k.zB.take 1) d).2 (by rw [r1.n];exact qA);exact ⟨s1,⟨s2.d,s2.at_,s2.size,s2.ep,s2.fin,s2.blocks⟩,r1.trans s3,r1.uh s4⟩
 obtain ⟨k1,k2,k3,k4⟩:=key;rw [em] at k3;exact ⟨k1,ca.trans k2,k3,k4⟩
theorem Lg.ZB:∀ (n:Nat) (l:Lg),1<=l.size/\l.size<=2000->(∀ c∈l.zB,c.ok)->l.num=l.yn.length+l.zB.length->l.yn.length+l.zB.length+(l.xJ.length+213)/214<=l.size->l.ep<4294967296->l.fin<1000000000000->l.xJ.length<=n ->
 (Lg.tV n l).lL/\(Lg.tV n l).blocks=l.yn.length+l.zB.length+(l.xJ.length+213)/214
 | 0,l,h1,h2,h3,h4,h5,h6,h7=>by
  have e:l.xJ=[]:=List.eq_nil_of_length_eq_zero O_;have hb:l.blocks=l.yn.length+l.zB.length+(l.xJ.length+213)/214:=by unfold Lg.blocks;rw [if_pos e,e];simp
  exact ⟨⟨h1,by show l.xJ.length<214;omega,h2,h3,by show l.blocks<=_;rw [hb];exact h4,h5,h6⟩,hb⟩
 | n+1,l,h1,h2,h3,h4,h5,h6,h7=>by
  unfold Lg.tV;by_cases g:214<=l.xJ.length
  ·rw [if_pos g];have hd:(l.xJ.drop 214).length=l.xJ.length-214:=List.length_drop ..;have hq:(l.xJ.length+213)/214=(l.xJ.length-214+213)/214+1:=O_;have:=Lg.ZB n (l.z0x 214) h1 (λc hc=>?_) ?_ ?_ h5 h6 ?_
   ·refine ⟨this.1,this.2.trans ?_⟩;show l.yn.length+(l.zB++[_]).length+((l.xJ.drop 214).length+213)/214=_;rw [hd];simp;omega
   ·rcases List.mem_append.1 (show c∈l.zB++[_] from hc) with q | q
    ·exact h2 c q
    ·rw [List.mem_singleton] at q;subst q;refine ⟨h5,by show l.num<_;omega,by show l.fin-l.xJ.length<_;omega,?_⟩;show 1<=(l.xJ.take 214).length/\(l.xJ.take 214).length<=214;rw [List.length_take];omega
   ·show l.num+1=l.yn.length+(l.zB++[_]).length;simp;omega
   ·show l.yn.length+(l.zB++[_]).length+((l.xJ.drop 214).length+213)/214<=l.size;rw [hd];simp;omega
   ·show (l.xJ.drop 214).length<=n;omega
  ·rw [if_neg g];have hb:l.blocks=l.yn.length+l.zB.length+(l.xJ.length+213)/214:=by
    unfold Lg.blocks;by_cases e:l.xJ=[]
    ·rw [if_pos e,e];simp
    ·rw [if_neg e];have hp:1<=l.xJ.length:=List.length_pos_iff.2 e;omega
   exact ⟨⟨h1,O_,h2,h3,by rw [hb];exact h4,h5,h6⟩,hb⟩
theorem UI {l:Lg} (t:l.lL) {s:List UInt8} (h1:1<=s.length) (h2:s.length<=400) (hf:l.fin<999999999000) :
 ((l.append s).1.2=5/\(l.append s).2=l/\l.size<l.blocks+2) \/
 ((l.append s).1.2=0/\(l.append s).2.lL/\(l.append s).2.fin=l.fin+(s.length+6)/\(l.append s).2.blocks<=l.blocks+2/\(l.append s).2.d=l.d/\(l.append s).2.at_=l.at_/\(l.append s).2.size=l.size/\(l.append s).2.ep=l.ep/\(l.append s).2.Ti=l.Ti):=by
 have hl:=Yb h1 h2;have o:=t.xJ;have T3:l.yn.length+l.zB.length+(l.xJ.length+213)/214=l.blocks:=by
  unfold Lg.blocks;by_cases e:l.xJ=[]
  ·rw [if_pos e,e];simp
  ·rw [if_neg e];have hp:1<=l.xJ.length:=List.length_pos_iff.2 e;omega
 unfold Lg.append;rw [if_neg O_];by_cases g:l.size<l.fY (xi s).length
 ·rw [if_pos g];unfold Lg.fY at g;rw [hl] at g;exact .inl ⟨rfl,rfl,O_⟩
 ·rw [if_neg g];unfold Lg.fY at g;have hlo:(l.xJ++xi s).length=l.xJ.length+(s.length+6):=by rw [List.length_append,hl]
  have sp:=Lg.T2 (l.xJ.length+(xi s).length) { l with xJ:=l.xJ++xi s,fin:=l.fin+(xi s).length } S_;have st:=Lg.ZB (l.xJ.length+(xi s).length) { l with xJ:=l.xJ++xi s,fin:=l.fin+(xi s).length } t.size t.chs t.num
   (by show l.yn.length+l.zB.length+((l.xJ++xi s).length+213)/214<=l.size;rw [List.length_append];omega) t.ep (by show l.fin+(xi s).length<_;omega) S_
  have more:∀ (n:Nat) (k:Lg),(Lg.tV n k).at_=k.at_/\(Lg.tV n k).ep=k.ep/\(Lg.tV n k).Ti=k.Ti:=by
   intro n;induction n with
   | zero=>intro k;exact ⟨rfl,rfl,rfl⟩
   | succ n ih=>intro k;unfold Lg.tV;split;exact ih _;exact ⟨rfl,rfl,rfl⟩
  obtain ⟨m1,m2,m3⟩:=more (l.xJ.length+(xi s).length) { l with xJ:=l.xJ++xi s,fin:=l.fin+(xi s).length };refine .inr ⟨rfl,st.1,?_,?_,sp.2.2.2.2,m1,sp.2.2.1,m2,m3⟩
  ·refine sp.2.1.trans ?_;show l.fin+(xi s).length=_;rw [hl]
  ·refine Nat.le_trans (Nat.le_of_eq st.2) ?_;show l.yn.length+l.zB.length+((l.xJ++xi s).length+213)/214<=_;rw [hlo];omega
def Ca.wY (c:Ca) (i:vd):Nat:=if i.1 then 2+c.zH+i.2 else 2+i.2
theorem P2 (c:Ca) (i:vd):c.place i=((c.wY i:Nat):Int):=by
 unfold Ca.place Ca.wY;split <;> rfl
theorem gZ {c:Ca} {i:vd} (h:c.tC i):2<=c.wY i/\c.wY i<2+c.zH+c.zU:=by
 unfold Ca.tC at h;unfold Ca.wY;split at h <;> rename_i g
 ·rw [if_pos g];omega
 ·rw [if_neg g];omega
theorem TN {c:Ca} {i k:vd} (h:c.tC i) (g:c.tC k) (e:c.wY i=c.wY k):i=k:=by
 obtain ⟨a,n⟩:=i;obtain ⟨b,m⟩:=k;unfold Ca.tC at h g;unfold Ca.wY at e;cases a <;> cases b <;> simp at h g e <;> first | (exfalso;omega) | (congr 1)
def Ca.vw (c:Ca) (i:vd):List UInt8:=(vf (qr i) (W6 i) (tu c.dk.seen (c.wY i))).1
def Ca.pg (c:Ca) (i:vd):List UInt8:=match xI c.at_ i with
 | some j=>(c.frame j).p
 | none=>c.vw i
theorem vW {c:Ca} {i:vd} {j:Nat} (h:xI c.at_ i=some j):c.pg i=(c.frame j).p:=by unfold Ca.pg;rw [h]
theorem uy {c:Ca} {i:vd} (h:xI c.at_ i=none):c.pg i=c.vw i:=by unfold Ca.pg;rw [h]
structure Sv (c:Ca):Prop where
 ok:c.ok
 hand:c.ck.hand<c.ck.n
 sl:c.ck.seen.length=c.ck.n
 seen:pY c.dk.seen
 lat:c.lg.at_=2+c.zH+c.zU
 BM:c.lg.at_+c.lg.size<=c.dk.n
 lg:c.lg.lL
 right:∀ f∈c.fr,qr f.id f.p=true
 clean:∀ f∈c.fr,f.xQ=false->c.vw f.id=f.p
structure Ca.as (c c':Ca):Prop where
 zH:c'.zH=c.zH
 zU:c'.zU=c.zU
 wE:c'.wE=c.wE
 pg:∀ m,c.tC m->c'.pg m=c.pg m
 lg:c.lg.as c'.lg
 dk:Dk.to (λ_=>True) c.dk c'.dk
theorem Ca.as.refl (c:Ca):c.as c:=⟨rfl,rfl,rfl,λ_ _=>rfl,Lg.as.refl _,Dk.to.refl _ _⟩
theorem Ca.as.tC {c c':Ca} (a:c.as c') {i:vd} (h:c.tC i):c'.tC i:=Ca.gq a.zH a.zU h
theorem Ca.as.trans {a b c:Ca} (h:a.as b) (g:b.as c):a.as c :=
 ⟨g.zH.trans h.zH,g.zU.trans h.zU,g.wE.trans h.wE,λm q=>(g.pg m (h.tC q)).trans (h.pg m q),h.lg.trans g.lg,h.dk.trans g.dk⟩
def Ca.rest (c:Ca):Prop:=∀ x∈c.ck.pins,x=0
def Ca.gv (c:Ca) (i:vd) (x:List UInt8):Prop:=∃ (j:Nat) (l:List Nat),xI c.at_ i=some j/\j<c.fr.length/\(c.frame j).p=x/\(∀ x∈l,x=0)/\j<l.length/\c.ck.pins=l.set j 1
theorem aF {c:Ca} {j:Nat} (hj:j<c.fr.length):c.fr[j]?=some (c.frame j):=by
 unfold Ca.frame;rw [List.getElem?_eq_getElem hj];rfl
theorem lx {c:Ca} {j:Nat} (hj:j<c.fr.length):c.frame j∈c.fr:=List.mem_of_getElem? (aF hj)
theorem Qt {c:Ca} (o:c.ok) {j:Nat} (hj:j<c.fr.length):xI c.at_ (c.frame j).id=some j:=(o.at_ _ _).2 (by rw [aF hj];rfl)
theorem Po {c:Ca} (o:c.ok) {j:Nat} {i:vd} (h:xI c.at_ i=some j):(c.frame j).id=i:=by
 have:=(o.at_ i j).1 h;rw [aF (o.lt h)] at this;simpa using this
theorem z8m {c:Ca} {f:Fr} (h:f∈c.fr):∃ j,j<c.fr.length/\c.frame j=f:=by
 obtain ⟨j,hj,e⟩:=List.mem_iff_getElem.1 h;exact ⟨j,hj,by unfold Ca.frame;rw [List.getElem?_eq_getElem hj,e];rfl⟩
theorem kz {c c':Ca} {P:Nat->Prop} (t:Dk.to P c.dk c'.dk) (hp:c'.zH=c.zH) {i:vd} (h:¬ P (c.wY i)):c'.vw i=c.vw i:=by
 unfold Ca.vw;have e:c'.wY i=c.wY i:=by unfold Ca.wY;rw [hp]
 rw [e,t.seen _ h]
theorem Dk.to.eq {P:Nat->Prop} {d d':Dk} (t:Dk.to P d d') (h:d'.seen=d.seen):Dk.to (λ_=>False) d d':=⟨t.n,λb _=>by rw [h],t.ok,t.uT,t.ug,t.live⟩
theorem Dk.to.all {P:Nat->Prop} {d d':Dk} (t:Dk.to P d d'):Dk.to (λ_=>True) d d':=t.mono λ_ _=>trivial
theorem K7 {c:Ca} (s:Sv c) {i:vd} (h:c.tC i):¬ c.lg.dS (c.wY i):=by
 intro q;have:=gZ h;have:=s.lat;have:=q.1;omega
theorem Rz {c:Ca} (s:Sv c) {pW:Lg} {d':Dk} (lt:pW.lL) (la:c.lg.as pW) (t:Dk.to c.lg.dS c.dk d'):Sv { c with lg:=pW,dk:=d' }/\c.as { c with lg:=pW,dk:=d' }:=by
 have di:∀ i,c.tC i->({ c with lg:=pW,dk:=d' }:Ca).vw i=c.vw i:=λi h=>kz (c':={ c with lg:=pW,dk:=d' }) t rfl (K7 s h);refine ⟨⟨s.ok.same rfl rfl rfl rfl rfl rfl t.n,s.hand,s.sl,t.ok s.seen,la.at_.trans s.lat,?_,lt,s.right,λf hf hd=>?_⟩,⟨rfl,rfl,rfl,λm hm=>?_,la,t.all⟩⟩
 ·show pW.at_+pW.size<=d'.n;rw [la.at_,la.size,t.n];exact s.BM
 ·rw [di _ (s.ok.is f hf)];exact s.clean f hf hd
 ·cases hk:xI c.at_ m with
  | some j=>rw [vW hk,vW (c:={ c with lg:=pW,dk:=d' }) hk];rfl
  | none=>rw [uy hk,uy (c:={ c with lg:=pW,dk:=d' }) hk];exact di m hm
theorem z7x {c:Ca} (s:Sv c) {j:Nat} (hj:j<c.fr.length) {d':Dk} {st:Nat} (t:Dk.to (λb=>b=c.wY (c.frame j).id) c.dk d') (hb:tu d'.seen (c.wY (c.frame j).id)=wN st (c.frame j).p) :
 Sv { c with dk:=d' }/\c.as { c with dk:=d' }/\({ c with dk:=d' }:Ca).vw (c.frame j).id=(c.frame j).p:=by
 have hm:=lx hj;have hp:=(s.ok.fr _ hm).p;have di:∀ i,c.tC i->i≠(c.frame j).id->({ c with dk:=d' }:Ca).vw i=c.vw i:=λi h e=>kz (c':={ c with dk:=d' }) t rfl λq=>e (TN h (s.ok.is _ hm) q);have dj:({ c with dk:=d' }:Ca).vw (c.frame j).id=(c.frame j).p:=by
  unfold Ca.vw;show (vf _ _ (tu d'.seen (c.wY (c.frame j).id))).1=_;rw [hb];exact YV hp (s.right _ hm)
 refine ⟨⟨s.ok.same rfl rfl rfl rfl rfl rfl t.n,s.hand,s.sl,t.ok s.seen,s.lat,?_,s.lg,s.right,λf hf hd=>?_⟩,⟨rfl,rfl,rfl,λm oN=>?_,Lg.as.refl _,t.all⟩,dj⟩
 ·show c.lg.at_+c.lg.size<=d'.n;rw [t.n];exact s.BM
 ·by_cases e:f.id=(c.frame j).id
  ·obtain ⟨j',hj',rfl⟩:=z8m (c:=c) hf;have h1:=Qt s.ok hj';rw [e,Qt s.ok hj] at h1;cases h1;exact dj
  ·rw [di _ (s.ok.is f hf) e];exact s.clean f hf hd
 ·cases hk:xI c.at_ m with
  | some j'=>rw [vW hk,vW (c:={ c with dk:=d' }) hk];rfl
  | none =>
   rw [uy hk,uy (c:={ c with dk:=d' }) hk];refine di m oN λe=>?_;rw [e,Qt s.ok hj] at hk;cases hk
theorem MO {c:Ca} (s:Sv c) {j:Nat} (hj:j<c.fr.length) (hd:c.vw (c.frame j).id=(c.frame j).p):Sv (c.clear j)/\c.as (c.clear j):=by
 have hm:=lx hj;have vi:∀ f∈(c.clear j).fr,f∈c.fr\/f={ c.frame j with xQ:=false,first:=0 }:=λf hf=>by
  rcases List.mem_or_eq_of_mem_set hf with q | q
  ·exact .inl q
  ·exact .inr q
 have pO:∀ a:Nat,((c.clear j).fr[a]?).map Fr.id=(c.fr[a]?).map Fr.id:=λa=>by
  show ((c.fr.set j _)[a]?).map Fr.id=_;rw [List.getElem?_set];by_cases e:j=a
  ·subst e;rw [if_pos rfl,if_pos hj,aF hj];rfl
  ·rw [if_neg e]
 have hfp:∀ a:Nat,((c.clear j).frame a).p=(c.frame a).p:=λa=>by
  unfold Ca.frame;show ((c.fr.set j _)[a]?.getD Yv).p=_;rw [List.getElem?_set];by_cases e:j=a
  ·subst e;rw [if_pos rfl,if_pos hj];show (c.frame j).p=_;rfl
  ·rw [if_neg e]
 have di:∀ i,(c.clear j).vw i=c.vw i:=λi=>rfl;obtain ⟨a1,a2,a3,a4,a5,a6,a7,a8,a9⟩:=s.ok;refine ⟨⟨⟨a1,a2,a3,by show (c.fr.set j _).length<=_;rw [List.length_set];exact a4,λf hf=>?_,λf hf=>?_,λa b=>?_,a8,a9⟩,s.hand,s.sl,s.seen,s.lat,s.BM,s.lg,λf hf=>?_,λf hf BT=>?_⟩,⟨rfl,rfl,rfl,λm oN=>?_,Lg.as.refl _,Dk.to.refl _ _⟩⟩
 ·rcases vi f hf with q | rfl
  ·exact a5 f q
  ·exact ⟨(a5 _ hm).id,(a5 _ hm).p,by show 0<_;omega⟩
 ·rcases vi f hf with q | rfl
  ·exact a6 f q
  ·exact a6 (c.frame j) hm
 ·show _↔((c.clear j).fr[b]?).map Fr.id=some a;rw [pO];exact a7 a b
 ·rcases vi f hf with q | rfl
  ·exact s.right f q
  ·exact s.right (c.frame j) hm
 ·rcases vi f hf with q | rfl
  ·exact s.clean f q BT
  ·exact hd
 ·cases hk:xI c.at_ m with
  | some j'=>rw [vW hk,vW (c:=c.clear j) hk];exact hfp j'
  | none=>rw [uy hk,uy (c:=c.clear j) hk];rfl
theorem Mm {c:Ca} (s:Sv c) {j:Nat} (hj:j<c.fr.length) :
 Sv (c.xT j).2/\c.as (c.xT j).2/\c.dk.uh (c.xT j).1/\(c.xT j).2.at_=c.at_/\(c.xT j).2.ck=c.ck/\(c.xT j).2.fr.length=c.fr.length/\((c.xT j).1=0->((c.xT j).2.frame j).xQ=false):=by
 obtain ⟨m1,m2,m3,m4,m5,m6,_⟩:=Ca.mh c j
 -- the log
 have b1:(c.wt j).2.1.lL/\c.lg.as (c.wt j).2.1/\Dk.to c.lg.dS c.dk (c.wt j).2.2/\c.dk.uh (c.wt j).1:=by
  unfold Ca.wt;split
  ·exact Lg.Rt s.lg c.dk s.BM
  ·exact ⟨s.lg,Lg.as.refl _,Dk.to.refl _ _,Dk.oD _⟩
 obtain ⟨t1,t2,t3,t4⟩:=b1;obtain ⟨s1,a1⟩:=Rz s t1 t2 t3;have M4:∀ (d:Dk) (l:Lg),({ c with lg:=l,dk:=d }:Ca).frame j=c.frame j:=λd l=>rfl;rw [show (c.xT j)=_ from rfl] at m1 m2 m3 m4 m5 m6 ⊢;unfold Ca.xT at m1 m2 m3 m4 m5 m6 ⊢;by_cases h0:(c.wt j).1≠0
 ·simp only [if_pos h0] at m1 m2 m3 m4 m5 m6 ⊢;exact ⟨s1,a1,t4,by trivial,by trivial,by trivial,λe=>absurd e h0⟩
 ·simp only [if_neg h0] at m1 m2 m3 m4 m5 m6 ⊢;generalize (c.wt j).2.1=A8 at *;generalize (c.wt j).2.2=d1 at *
  -- the xu
  have hm:=lx hj;have X7:=gZ (s.ok.is _ hm);have hsz:=s.ok.size;have hp:=(s.ok.fr _ hm).p;have ep:({ c with lg:=A8 }:Ca).wL j d1=d1.write ((c.wY (c.frame j).id:Nat):Int) (wN (xB (c.frame j).p 7 8) (c.frame j).p):=by
   unfold Ca.wL;rw [show ({ c with lg:=A8 }:Ca).place (({ c with lg:=A8 }:Ca).frame j).id=c.place (c.frame j).id from rfl,P2];rfl
  obtain ⟨w1,w2,w3,w4⟩:=Dk.Ta (d:=d1) (b:=c.wY (c.frame j).id) (x:=wN (xB (c.frame j).p 7 8) (c.frame j).p) (by rw [t3.n];omega) (lX hp);rw [<- ep] at w1 w2 w3 w4;unfold Ca.tJ at m1 m2 m3 m4 m5 m6 ⊢;generalize ({ c with lg:=A8 }:Ca).wL j d1=y at *;by_cases h1:y.1≠0
  ·simp only [if_pos h1] at m1 m2 m3 m4 m5 m6 ⊢;have:=Rz s1 (pW:=A8) (d':=y.2) t1 (Lg.as.refl _) ((w1.eq (w4 h1)).mono λ_ q=>q.elim);exact ⟨this.1,a1.trans this.2,t3.uh w2,by trivial,by trivial,by trivial,λe=>absurd e h1⟩
  ·simp only [if_neg h1] at m1 m2 m3 m4 m5 m6 ⊢;have h1:y.1=0:=O_;obtain ⟨u1,u2,u3⟩:=z7x s1 (j:=j) hj (d':=y.2) w1 (w3 h1);obtain ⟨y1,y2,y3⟩:=y.2.Of;obtain ⟨v1,v2⟩:=Rz u1 (pW:=A8) (d':=y.2.sync.2) t1 (Lg.as.refl _) (y1.mono λ_ q=>q.elim);have a3:=(a1.trans u2).trans v2;have sy:c.dk.uh y.2.sync.1:=t3.uh (w1.uh y2);by_cases h2:y.2.sync.1≠0
   ·simp only [if_pos h2] at m1 m2 m3 m4 m5 m6 ⊢;exact ⟨v1,a3,sy,by trivial,by trivial,by trivial,λe=>absurd e h2⟩
   ·simp only [if_neg h2] at m1 m2 m3 m4 m5 m6 ⊢;have dj:({ c with lg:=A8,dk:=y.2.sync.2 }:Ca).vw (c.frame j).id=(c.frame j).p:=by
     refine Eq.trans ?_ u3;exact kz (c:={ c with lg:=A8,dk:=y.2 }) (c':={ c with lg:=A8,dk:=y.2.sync.2 }) y1 rfl (λq=>q)
    obtain ⟨z1,z2⟩:=MO v1 (j:=j) hj dj;refine ⟨z1,a3.trans z2,Dk.oD _,by trivial,by trivial,m5,λ_=>?_⟩;show ((c.fr.set j _)[j]?.getD Yv).xQ=false;rw [List.getElem?_set,if_pos rfl,if_pos hj];rfl
theorem Um {i:vd} (hi:i.2<65536):qr i (W6 i)=true:=by
 unfold qr W6;by_cases h:i.1=true
 ·rw [if_pos h,if_pos h,lz hi ⟨D_,(λo ho=>absurd ho S_),D_⟩ jT];rfl
 ·rw [if_neg h,if_neg h];exact decide_eq_true (Qd hi kW)
theorem Qx {i:vd} (hi:i.2<65536) (b:List UInt8):qr i (vf (qr i) (W6 i) b).1=true:=by
 unfold vf;split
 ·rename_i h;exact h.2
 ·exact Um hi
theorem fe (c:Ca) (j:Nat) (d:Dk) (i:vd) (x:List UInt8 × Bool):(c.tB j d i x).zH=c.zH/\(c.tB j d i x).zU=c.zU/\(c.tB j d i x).wE=c.wE/\(c.tB j d i x).lg=c.lg/\(c.tB j d i x).dk=d/\(c.tB j d i x).ck.n=c.ck.n/\(c.tB j d i x).ck.hand=c.ck.hand/\(c.tB j d i x).ck.seen.length=c.ck.seen.length/\(c.tB j d i x).ck.pins=c.ck.pins.set j (c.ck.pins.getD j 0+1):=by
 unfold Ca.tB;split
 ·rename_i h;subst h;exact ⟨rfl,rfl,rfl,rfl,rfl,by show (Ca.hold _ _).ck.n=_;rw [lC,V1],rfl,by show ((c.ck.seen.set _ _).set _ _).length=_;rw [List.length_set,List.length_set],rfl⟩
 ·exact ⟨rfl,rfl,rfl,rfl,rfl,by show (Ca.hold _ _).ck.n=_;rw [lC,V1],rfl,by show ((c.ck.seen.set _ _).set _ _).length=_;rw [List.length_set,List.length_set],rfl⟩
def Ca.free (c:Ca) (j:Nat):Prop:=(j=c.fr.length/\j<c.wE)\/(j<c.fr.length/\(c.frame j).xQ=false)
theorem Cf {c:Ca} (s:Sv c) {i:vd} {j:Nat} (hi:c.tC i) (jI:i.2<65536) (hk:xI c.at_ i=none) (hj:c.free j) {d:Dk} (t:Dk.to (λ_=>False) c.dk d) {x:List UInt8 × Bool} (hx:x.1=c.vw i) (hl:x.1.length=224) (hr:qr i x.1=true) :
 Sv (c.tB j d i x)/\c.as (c.tB j d i x)/\xI (c.tB j d i x).at_ i=some j/\j<(c.tB j d i x).fr.length/\((c.tB j d i x).frame j).p=x.1:=by
 obtain ⟨e1,e2,e3,e4,e5,e6,e7,e8,e9⟩:=fe c j d i x;have hjm:j<c.wE:=by
  rcases hj with q | q
  ·exact q.2
  ·have:=s.ok.len;omega
 have di:∀ m,(c.tB j d i x).vw m=c.vw m:=λm=>kz (P:=λ_=>False) (by rw [e5];exact t) e1 (λq=>q)
 -- the Rr and where they are
 have key:(c.tB j d i x).ok/\j<(c.tB j d i x).fr.length/\(c.tB j d i x).frame j=⟨i,x.1,false,0,x.2⟩/\(∀ f∈(c.tB j d i x).fr,f∈c.fr\/f=⟨i,x.1,false,0,x.2⟩) /\
  xI (c.tB j d i x).at_ i=some j/\(∀ m,m≠i->(xI (c.tB j d i x).at_ m=xI c.at_ m/\∀ j',xI c.at_ m=some j'->(c.tB j d i x).frame j'=c.frame j')\/(xI (c.tB j d i x).at_ m=none/\c.vw m=c.pg m)):=by
  unfold Ca.tB;by_cases h:j=c.fr.length
  ·rw [if_pos h];subst h;refine ⟨Ca.O8 s.ok t.n hi jI hk hjm hl,?_,?_,λf hf=>?_,?_,λm hm=>.inl ⟨?_,λj' hj'=>?_⟩⟩
   ·show _<(c.fr++[_]).length;simp
   ·show ((c.fr++[_])[c.fr.length]?).getD Yv=_;rw [List.getElem?_append_right (Nat.le_refl _),Nat.sub_self];rfl
   ·rcases List.mem_append.1 (show f∈c.fr++[_] from hf) with q | q
    ·exact .inl q
    ·rw [List.mem_singleton] at q;exact .inr q
   ·show xI (qS c.at_ i c.fr.length) i=_;rw [ri,if_pos rfl]
   ·show xI (qS c.at_ i c.fr.length) m=_;rw [ri,if_neg λe=>hm e.symm]
   ·have:=s.ok.lt hj';show ((c.fr++[_])[j']?).getD Yv=_;rw [List.getElem?_append_left this];rfl
  ·rw [if_neg h];have qV:j<c.fr.length/\(c.frame j).xQ=false:=by
    rcases hj with q | q
    ·exact absurd q.1 h
    ·exact q
   have gk:∀ m,xI (c.swap j d i x).at_ m=if i=m then some j else if (c.frame j).id=m then none else xI c.at_ m:=λm=>by
    show xI (qS (nr c.at_ (c.frame j).id) i j) m=_;rw [ri,iG s.ok.uq]
   refine ⟨Ca.Od s.ok qV.1 t.n hi jI hk hl,?_,?_,λf hf=>?_,?_,λm hm=>?_⟩
   ·show _<(c.fr.set j _).length;rw [List.length_set];exact qV.1
   ·show ((c.fr.set j _)[j]?).getD Yv=_;rw [List.getElem?_set,if_pos rfl,if_pos qV.1];rfl
   ·rcases List.mem_or_eq_of_mem_set (show f∈c.fr.set j _ from hf) with q | q
    ·exact .inl q
    ·exact .inr q
   ·rw [gk,if_pos rfl]
   ·rw [gk,if_neg λe=>hm e.symm];by_cases e:(c.frame j).id=m
    ·subst e;rw [if_pos rfl];refine .inr ⟨rfl,?_⟩;rw [vW (Qt s.ok qV.1)];exact s.clean _ (lx qV.1) qV.2
    ·rw [if_neg e];refine .inl ⟨rfl,λj' hj'=>?_⟩;show ((c.fr.set j _)[j']?).getD Yv=_;rw [List.getElem?_set,if_neg λq=>e (by subst q;exact Po s.ok hj')];rfl
 obtain ⟨k1,k2,k3,k4,k5,k6⟩:=key;refine ⟨⟨k1,by rw [e7,e6];exact s.hand,by rw [e8,e6];exact s.sl,by rw [e5];exact t.ok s.seen,by rw [e4,e1,e2];exact s.lat,by rw [e4,e5,t.n];exact s.BM,by rw [e4];exact s.lg,λf hf=>?_,λf hf hd=>?_⟩,⟨e1,e2,e3,λm hm=>?_,by rw [e4];exact Lg.as.refl _,by rw [e5];exact t.all⟩,k5,k2,by rw [k3]⟩
 ·rcases k4 f hf with q | rfl
  ·exact s.right f q
  ·exact hr
 ·rw [di];rcases k4 f hf with q | rfl
  ·exact s.clean f q hd
  ·exact hx.symm
 ·by_cases e:m=i
  ·subst e;rw [vW k5,k3,uy hk];exact hx
  ·rcases k6 m e with ⟨q1,q2⟩ | ⟨q1,q2⟩
   ·cases hq:xI c.at_ m with
    | some j' =>
     rw [hq] at q1;rw [vW q1,vW hq,q2 j' hq]
    | none =>
     rw [hq] at q1;rw [uy q1,uy hq,di]
   ·rw [uy q1,di,q2]
theorem We {c:Ca} (s:Sv c) {i:vd} {j:Nat} (hi:c.tC i) (jI:i.2<65536) (hk:xI c.at_ i=none) (hj:c.free j) :
 Sv (c.load (qr i) (W6 i) i j).2/\c.as (c.load (qr i) (W6 i) i j).2/\c.dk.uh (c.load (qr i) (W6 i) i j).1.2 /\
  ((c.load (qr i) (W6 i) i j).1.2≠0->(c.load (qr i) (W6 i) i j).2.ck=c.ck) /\
  ((c.load (qr i) (W6 i) i j).1.2=0->(c.load (qr i) (W6 i) i j).1.1=c.pg i/\xI (c.load (qr i) (W6 i) i j).2.at_ i=some j/\j<(c.load (qr i) (W6 i) i j).2.fr.length/\((c.load (qr i) (W6 i) i j).2.frame j).p=c.pg i/\(c.load (qr i) (W6 i) i j).2.ck.pins=c.ck.pins.set j (c.ck.pins.getD j 0+1)):=by
 have X7:=gZ hi;have hsz:=s.ok.size;obtain ⟨r1,r2,r3⟩:=Dk.A7 (d:=c.dk) (b:=c.wY i) O_;unfold Ca.load;rw [P2];by_cases h:(c.dk.read ((c.wY i:Nat):Int)).2.1=0
 ·simp only [if_pos h];have eb:=r3 h;have hx:(vf (qr i) (W6 i) (c.dk.read ((c.wY i:Nat):Int)).1).1=c.vw i:=by rw [eb];rfl
  have hl:(vf (qr i) (W6 i) (c.dk.read ((c.wY i:Nat):Int)).1).1.length=224:=by rw [eb];exact lZ (nj s.seen _) (tO i)
  obtain ⟨k1,k2,k3,k4,k5⟩:=Cf s hi jI hk hj r1 hx hl (Qx jI _);have ep:c.pg i=c.vw i:=uy hk;refine ⟨k1,k2,Dk.oD _,λe=>absurd rfl e,λ_=>⟨by rw [ep];exact hx,k3,k4,by rw [k5,hx,ep],(fe c j _ i _).2.2.2.2.2.2.2.2⟩⟩
 ·simp only [if_neg h];obtain ⟨v1,v2⟩:=Rz s (pW:=c.lg) (d':=(c.dk.read ((c.wY i:Nat):Int)).2.2) s.lg (Lg.as.refl _) (r1.mono λ_ q=>q.elim);exact ⟨v1,v2,r2,λ_=>by trivial,λe=>absurd e h⟩
theorem Pm {c:Ca} (s:Sv c) {k:Ck} (h1:k.hand<k.n) (h2:k.n=c.ck.n) (h3:k.seen.length=k.n):Sv { c with ck:=k }/\c.as { c with ck:=k } :=
 ⟨⟨s.ok.same rfl rfl rfl rfl rfl h2 rfl,h1,h3,s.seen,s.lat,s.BM,s.lg,s.right,s.clean⟩,⟨rfl,rfl,rfl,λ_ _=>rfl,Lg.as.refl _,Dk.to.refl _ _⟩⟩
theorem lh {c:Ca} (s:Sv c) (r:c.rest) {i:vd} (hi:c.tC i) (jI:i.2<65536) :
 Sv (c.yh i).2/\c.as (c.yh i).2/\c.dk.uh (c.yh i).1.2/\((c.yh i).1.2≠0->(c.yh i).2.rest)/\((c.yh i).1.2=0->(c.yh i).1.1=c.pg i/\(c.yh i).2.gv i (c.pg i)):=by
 have hm:=s.ok.wE;have hold:∀ (c':Ca) (l:List Nat) (j:Nat),(∀ x∈l,x=0)->j<l.length->xI c'.at_ i=some j->j<c'.fr.length->(c'.frame j).p=c.pg i->c'.ck.pins=l.set j (l.getD j 0+1)->c'.gv i (c.pg i):=λc' l j h0 hl h1 h2 h3 h4 =>
  ⟨j,l,h1,h2,h3,h0,hl,by rw [h4,YX h0]⟩
 unfold Ca.yh Ca.wA;rw [if_pos hi];cases hk:xI c.at_ i with
 | some j =>
  have hj:=s.ok.lt hk;have gB:=s.ok.len;have NZ:j<c.ck.pins.length:=by have:c.ck.n=c.ck.pins.length:=rfl;omega
  simp only;have hv:Sv (c.hold j)/\c.as (c.hold j):=Pm s (k:=(c.hold j).ck) (by rw [lC];exact s.hand) (lC c j) (by rw [lC];show (c.ck.seen.set j true).length=_;rw [List.length_set];exact s.sl);exact ⟨hv.1,hv.2,Dk.oD _,λe=>absurd rfl e,λ_=>⟨(vW hk).symm,hold (c.hold j) c.ck.pins j r NZ hk hj (vW hk).symm rfl⟩⟩
 | none =>
  simp only;by_cases hlt:c.fr.length<c.wE
  ·rw [if_pos hlt];obtain ⟨l1,l2,l3,l4,l5⟩:=We s hi jI hk (.inl ⟨rfl,hlt⟩);exact ⟨l1,l2,l3,λe=>by unfold Ca.rest;rw [l4 e];exact r,λe=>by
    obtain ⟨a1,a2,a3,a4,a5⟩:=l5 e;exact ⟨a1,hold _ c.ck.pins _ r (by have:c.ck.n=c.ck.pins.length:=rfl;omega) a2 a3 a4 a5⟩⟩
  ·rw [if_neg hlt];obtain ⟨j,hv⟩:=Ck.T9 s.hand s.sl r;obtain ⟨v1,v2,v3⟩:=Ck.lK c.ck s.hand;obtain ⟨v4,v5⟩:=Ck.Rq s.hand;obtain ⟨v6,_⟩:=v3 j hv;have gB:=s.ok.len;have qV:j<c.fr.length:=O_;obtain ⟨s1,a1⟩:=Pm s (k:=c.ck.yE.2) O_ v1 (by rw [v5,v1];exact s.sl);rw [hv];simp only;have hjp:j<c.ck.pins.length:=v6;by_cases hd:(c.frame j).xQ=true
   ·rw [if_pos hd];obtain ⟨b1,b2,b3,b4,b5,b6,b7⟩:=Mm s1 (j:=j) qV;by_cases he:(({ c with ck:=c.ck.yE.2 }:Ca).xT j).1≠0
    ·rw [if_pos he];refine ⟨b1,a1.trans b2,b3,λ_=>?_,λe=>absurd e he⟩;unfold Ca.rest;show ∀ x∈(({ c with ck:=c.ck.yE.2 }:Ca).xT j).2.ck.pins,x=0;rw [b5];show ∀ x∈c.ck.yE.2.pins,x=0;rw [v2];exact r
    ·rw [if_neg he];have he:(({ c with ck:=c.ck.yE.2 }:Ca).xT j).1=0:=O_;have BT:=b7 he;have Oc:=b2.pg i hi;have e5:(({ c with ck:=c.ck.yE.2 }:Ca).xT j).2.ck.pins=c.ck.pins:=by rw [b5];exact v2
     have hdk:=b2.dk;have ha:=a1.trans b2;generalize (({ c with ck:=c.ck.yE.2 }:Ca).xT j).2=c' at *;obtain ⟨l1,l2,l3,l4,l5⟩:=We b1 (ha.tC hi) jI (by rw [b4];exact hk) (j:=j) (.inr ⟨by rw [b6];exact qV,BT⟩);have hp':c'.pg i=c.pg i:=ha.pg i hi;refine ⟨l1,ha.trans l2,hdk.uh l3,λe=>by unfold Ca.rest;rw [l4 e,e5];exact r,λe=>?_⟩;obtain ⟨x1,x2,x3,x4,x5⟩:=l5 e;rw [hp'] at x1 x4;rw [e5] at x5;exact ⟨x1,hold _ c.ck.pins j r hjp x2 x3 x4 x5⟩
   ·rw [if_neg hd];have hd:(c.frame j).xQ=false:=by simpa using hd
    have e5:({ c with ck:=c.ck.yE.2 }:Ca).ck.pins=c.ck.pins:=v2;have hp':({ c with ck:=c.ck.yE.2 }:Ca).pg i=c.pg i:=a1.pg i hi;obtain ⟨l1,l2,l3,l4,l5⟩:=We s1 hi jI hk (j:=j) (.inr ⟨qV,hd⟩);refine ⟨l1,a1.trans l2,l3,λe=>by unfold Ca.rest;rw [l4 e,e5];exact r,λe=>?_⟩;obtain ⟨x1,x2,x3,x4,x5⟩:=l5 e;rw [hp'] at x1 x4;rw [e5] at x5;exact ⟨x1,hold _ c.ck.pins j r hjp x2 x3 x4 x5⟩
theorem MH {l:List Nat} {j:Nat} (h:∀ x∈l,x=0):∀ x∈(l.set j 1).set j 0,x=0:=λx hx=>by
 rw [List.set_set] at hx;rcases List.mem_or_eq_of_mem_set hx with q | q
 ·exact h x q
 ·exact q
theorem ng {c:Ca} (s:Sv c) {i:vd} {x:List UInt8} (h:c.gv i x):Sv (c.xm i)/\c.as (c.xm i)/\(c.xm i).rest:=by
 obtain ⟨j,l,h1,h2,h3,h4,h5,h6⟩:=h;have e:c.xm i={ c with ck:={ c.ck with pins:=(l.set j 1).set j 0 } }:=by
  unfold Ca.xm;rw [h1,h6];simp only;rw [show (l.set j 1).getD j 0=1 by rw [List.getD_eq_getElem?_getD,List.getElem?_set_self h5];rfl]
 have hn:({ c.ck with pins:=(l.set j 1).set j 0 }:Ck).n=c.ck.n:=by
  unfold Ck.n;rw [h6,List.length_set]
 rw [e];obtain ⟨s1,a1⟩:=Pm s (k:={ c.ck with pins:=(l.set j 1).set j 0 }) (by rw [hn];exact s.hand) hn (by rw [hn];exact s.sl);exact ⟨s1,a1,MH h4⟩
open Go.Proofs.YtdbgifdfdhhjcaaGreat.wT (Rc c1 qM)
theorem TJ {r:Rc} (hm:r.may=true) (o:r.ok):1<=r.enc.length/\r.enc.length<=400:=by
 unfold Rc.may at hm;simp only [Bool.and_eq_true,decide_eq_true_eq] at hm;obtain ⟨⟨⟨⟨h1,h2⟩,h3⟩,h4⟩,h5⟩:=hm;have hi:=o.im;have ht:wT.tW r.im 224<=224:=by
  have:∀ (l:List Int) (n:Nat),wT.tW l n<=n:=by
   intro l n;induction n with
   | zero=>exact Nat.le_refl _
   | succ n ih=>unfold wT.tW;split <;> omega
  exact this _ _
 unfold Rc.enc;split
 ·simp only [List.length_cons,List.length_append,wT.tz,wT.qM,List.length_map,List.length_take];omega
 ·split
  ·simp only [List.length_cons,List.length_append,wT.tz];omega
  ·split
   ·simp only [List.length_cons,List.length_append,wT.tz];omega
   ·split
    ·simp only [List.length_cons,wT.tz];omega
    ·simp only [List.length_cons,List.length_append,wT.tz,List.length_nil];omega
structure Lg.full (l:Lg):Prop where
 size:l.size=80
 st:l.yn=[]
 num:l.num=l.zB.length
 fin:l.fin=1+214*l.zB.length+l.xJ.length
 xJ:l.xJ.length<214
 cap:214*l.zB.length+l.xJ.length<=17120
structure JC (c:Ca):Prop where
 ok:c.ok
 wG:c.dk.wG
 seen:pY c.dk.seen
 dn:c.dk.n=89
 pg:c.zH=3
 un:c.zU=4
 lg:c.lg.full
 ids:∀ f∈c.fr,f.id.1=false
 xu:∀ f∈c.fr,ur f.id.2 f.p
structure Bud (k:Nat) (c:Ca):Prop where
 ops:c.dk.ops<=100+k
 pins:∀ x∈c.ck.pins,x<=k
theorem Bud.mono {k k':Nat} {c:Ca} (b:Bud k c) (h:k<=k'):Bud k' c:=⟨by have:=b.ops;omega,λx hx=>by have:=b.pins x hx;omega⟩
theorem JC.fit {c:Ca} (i:JC c) {k:Nat} (b:Bud k c) (hk:k<=100000):c.fit:=by
 have h1:=i.lg.num;have h2:=i.lg.fin;have h3:=i.lg.xJ;have h4:=i.lg.cap;have h5:=b.ops;exact ⟨O_,λx hx=>by have:=b.pins x hx;omega,O_,O_,O_,h3⟩
theorem JC.room {c:Ca} (i:JC c):c.fr.length<=3:=by
 rcases Nat.lt_or_ge 3 c.fr.length with h | h
 ·exfalso;have o:=i.ok;have key:∀ (a b:Nat) (ha:a<c.fr.length) (hb:b<c.fr.length),(c.fr[a]).id.2=(c.fr[b]).id.2->a=b:=by
   intro a b ha hb e;have e1:=i.ids _ (List.getElem_mem ha);have e2:=i.ids _ (List.getElem_mem hb);have e3:(c.fr[a]).id=(c.fr[b]).id:=Prod.ext (e1.trans e2.symm) e;have k1:=(o.at_ (c.fr[a]).id a).2 (by rw [List.getElem?_eq_getElem ha];rfl);have k2:=(o.at_ (c.fr[a]).id b).2 (by rw [List.getElem?_eq_getElem hb,e3];rfl);rw [k1] at k2;cases k2;rfl
  have lt:∀ (a:Nat) (ha:a<c.fr.length),(c.fr[a]).id.2<3:=by
   intro a ha;have h1:=o.is _ (List.getElem_mem ha);have h2:=i.ids _ (List.getElem_mem ha);unfold Ca.tC at h1;rw [h2,if_neg S_,i.pg] at h1;exact h1
  have d01:=key 0 1 O_ O_;have d02:=key 0 2 O_ O_;have d03:=key 0 3 O_ O_;have d12:=key 1 2 O_ O_;have d13:=key 1 3 O_ O_;have d23:=key 2 3 O_ O_;have l0:=lt 0 O_;have l1:=lt 1 O_;have l2:=lt 2 O_;have l3:=lt 3 O_;omega
 ·exact h
theorem KH {l:List Nat} {j v k:Nat} (h:∀ x∈l,x<=k) (hv:v<=k):∀ x∈l.set j v,x<=k:=λx hx=>by
 rcases List.mem_or_eq_of_mem_set hx with q | q
 ·exact h x q
 ·omega
theorem H2 {l:List Nat} {j k:Nat} (h:∀ x∈l,x<=k):l.getD j 0<=k:=by
 rw [List.getD_eq_getElem?_getD];cases hq:l[j]? with
 | none=>simp
 | some x=>exact h x (List.mem_of_getElem? hq)
theorem Bud.hold {k:Nat} {c:Ca} (b:Bud k c) (j:Nat):Bud (k+1) (c.hold j) :=
 ⟨by have:=b.ops;show c.dk.ops<=_;omega,KH (λx hx=>by have:=b.pins x hx;omega) (by have:=H2 b.pins (j:=j);omega)⟩
theorem JC.hold {c:Ca} (i:JC c) (j:Nat):JC (c.hold j):=⟨Ca.O9 i.ok j,i.wG,i.seen,i.dn,i.pg,i.un,i.lg,i.ids,i.xu⟩
structure GoodR (r:Rc):Prop where
 ok:r.ok
 may:r.may=true
 k:r.k=2
 no:r.no.toNat<3
 dl:∀ b,(wD b r.dl).1=true
theorem eM (c:Ca) (i:vd):(c.xm i).fr=c.fr/\(c.xm i).at_=c.at_/\(c.xm i).lg=c.lg/\(c.xm i).dk=c.dk/\(c.xm i).zH=c.zH/\(c.xm i).zU=c.zU/\(c.xm i).wE=c.wE/\(c.xm i).ck.n=c.ck.n:=by
 unfold Ca.xm;split
 ·exact ⟨rfl,rfl,rfl,rfl,rfl,rfl,rfl,by simp [Ck.n]⟩
 ·exact ⟨rfl,rfl,rfl,rfl,rfl,rfl,rfl,rfl⟩
theorem JC.xm {c:Ca} (i:JC c) (k:vd):JC (c.xm k):=by
 obtain ⟨h1,h2,h3,h4,h5,h6,h7,h8⟩:=eM c k;exact ⟨i.ok.same h5 h6 h7 h1 h2 h8 (by rw [h4]),by rw [h4];exact i.wG,by rw [h4];exact i.seen,by rw [h4];exact i.dn,by rw [h5];exact i.pg,by rw [h6];exact i.un,by rw [h3];exact i.lg,by rw [h1];exact i.ids,by rw [h1];exact i.xu⟩
structure Ca.on (c c':Ca):Prop where
 zH:c'.zH=c.zH
 zU:c'.zU=c.zU
 wE:c'.wE=c.wE
 size:c'.lg.size=c.lg.size
 at_:c'.lg.at_=c.lg.at_
 ep:c'.lg.ep=c.lg.ep
 d:c'.lg.d=c.lg.d
 fin:c.lg.fin<=c'.lg.fin
 dk:Dk.to (λ_=>True) c.dk c'.dk
theorem Ca.as.on {c c':Ca} (a:c.as c'):c.on c':=⟨a.zH,a.zU,a.wE,a.lg.size,a.lg.at_,a.lg.ep,a.lg.d,Nat.le_of_eq a.lg.fin.symm,a.dk⟩
theorem Ca.on.trans {a b c:Ca} (h:a.on b) (g:b.on c):a.on c:=⟨g.zH.trans h.zH,g.zU.trans h.zU,g.wE.trans h.wE,g.size.trans h.size,g.at_.trans h.at_,g.ep.trans h.ep,g.d.trans h.d,Nat.le_trans h.fin g.fin,h.dk.trans g.dk⟩
theorem Ca.on.tC {c c':Ca} (a:c.on c') {i:vd} (h:c.tC i):c'.tC i:=Ca.gq a.zH a.zU h
theorem z2m {c:Ca} (s:Sv c) {i:vd} {y x:List UInt8} (h:c.gv i y) (hl:x.length=224) (hr:qr i x=true) {pW:Lg} (lt:pW.lL) (l1:pW.at_=c.lg.at_) (l2:pW.size=c.lg.size) :
 Sv (({ c with lg:=pW }:Ca).oL i x)/\(({ c with lg:=pW }:Ca).oL i x).gv i x/\(∀ m,m≠i->(({ c with lg:=pW }:Ca).oL i x).pg m=c.pg m)/\(({ c with lg:=pW }:Ca).oL i x).pg i=x /\
  (({ c with lg:=pW }:Ca).oL i x).zH=c.zH/\(({ c with lg:=pW }:Ca).oL i x).zU=c.zU/\(({ c with lg:=pW }:Ca).oL i x).wE=c.wE/\(({ c with lg:=pW }:Ca).oL i x).lg=pW/\(({ c with lg:=pW }:Ca).oL i x).dk=c.dk:=by
 obtain ⟨j,l,h1,h2,h3,h4,h5,h6⟩:=h;have e:({ c with lg:=pW }:Ca).oL i x={ c with lg:=pW,fr:=c.fr.set j ((c.frame j).put x) }:=by
  unfold Ca.oL;rw [show xI ({ c with lg:=pW }:Ca).at_ i=some j from h1];rfl
 rw [e];have hid:=Po s.ok h1;have hm:=lx h2;have vi:∀ f∈c.fr.set j ((c.frame j).put x),f∈c.fr\/f=(c.frame j).put x:=λf hf=>by
  rcases List.mem_or_eq_of_mem_set hf with q | q
  ·exact .inl q
  ·exact .inr q
 have pO:∀ a:Nat,((c.fr.set j ((c.frame j).put x))[a]?).map Fr.id=(c.fr[a]?).map Fr.id:=λa=>by
  rw [List.getElem?_set];by_cases e:j=a
  ·subst e;rw [if_pos rfl,if_pos h2,aF h2];rfl
  ·rw [if_neg e]
 have M4:∀ a:Nat,({ c with lg:=pW,fr:=c.fr.set j ((c.frame j).put x) }:Ca).frame a=if a=j then (c.frame j).put x else c.frame a:=λa=>by
  show ((c.fr.set j _)[a]?).getD Yv=_;rw [List.getElem?_set];by_cases e:a=j
  ·subst e;rw [if_pos rfl,if_pos h2,if_pos rfl];rfl
  ·rw [if_neg λq=>e q.symm,if_neg e];rfl
 obtain ⟨a1,a2,a3,a4,a5,a6,a7,a8,a9⟩:=s.ok;refine ⟨⟨⟨a1,a2,a3,by show (c.fr.set j _).length<=_;rw [List.length_set];exact a4,λf hf=>?_,λf hf=>?_,λa b=>?_,a8,a9⟩,s.hand,s.sl,s.seen,?_,?_,lt,λf hf=>?_,λf hf hd=>?_⟩,⟨j,l,h1,?_,?_,h4,h5,h6⟩,λm oN=>?_,?_,rfl,rfl,rfl,rfl,rfl⟩
 ·rcases vi f hf with q | rfl
  ·exact a5 f q
  ·have:=a5 (c.frame j) hm;exact ⟨this.id,hl,by show (if (c.frame j).xQ then _ else _)<_;split;exact this.first;exact ib D_⟩
 ·rcases vi f hf with q | rfl
  ·exact a6 f q
  ·exact a6 (c.frame j) hm
 ·show _↔((c.fr.set j _)[b]?).map Fr.id=some a;rw [pO];exact a7 a b
 ·show pW.at_=2+c.zH+c.zU;rw [l1];exact s.lat
 ·show pW.at_+pW.size<=c.dk.n;rw [l1,l2];exact s.BM
 ·rcases vi f hf with q | rfl
  ·exact s.right f q
  ·show qr (c.frame j).id x=true;rw [hid];exact hr
 ·rcases vi f hf with q | rfl
  ·exact s.clean f q hd
  ·exact absurd hd (by show ¬ true=false;decide)
 ·show j<(c.fr.set j _).length;rw [List.length_set];exact h2
 ·rw [M4,if_pos rfl];rfl
 ·cases hk:xI c.at_ m with
  | some j' =>
   rw [vW hk,vW (c:={ c with lg:=pW,fr:=c.fr.set j ((c.frame j).put x) }) hk,M4,if_neg];intro q;subst q;exact oN ((Po s.ok hk).symm.trans hid)
  | none=>rw [uy hk,uy (c:={ c with lg:=pW,fr:=c.fr.set j ((c.frame j).put x) }) hk];rfl
 ·rw [vW (c:={ c with lg:=pW,fr:=c.fr.set j ((c.frame j).put x) }) h1,M4,if_pos rfl];rfl
def ai (i:vd) (ro:Ro) (u:Un):Ro:=if i.1 then ro.note i.2 u else ro
theorem If {c:Ca} (s:Sv c) (i:vd) (b:Bool):Sv (c.vQ i b)/\c.as (c.vQ i b)/\(∀ m x,c.gv m x->(c.vQ i b).gv m x):=by
 unfold Ca.vQ;cases hk:xI c.at_ i with
 | some j =>
  obtain ⟨s1,a1⟩:=Pm s (k:={ c.ck with vQ:=c.ck.vQ.set j b }) s.hand rfl s.sl;exact ⟨s1,a1,λm x h=>h⟩
 | none=>exact ⟨s,Ca.as.refl c,λm x h=>h⟩
theorem Lv {c:Ca} (s:Sv c) (i:vd) (x:List UInt8) (ro:Ro):Sv (uZ i x c ro).1/\c.as (uZ i x c ro).1/\(∀ m x',c.gv m x'->(uZ i x c ro).1.gv m x')/\(uZ i x c ro).2=ai i ro (ZC (ua i.2 x)).1:=by
 unfold uZ ai;split
 ·obtain ⟨h1,h2,h3⟩:=If s i (decide (wi (ZC (ua i.2 x)).1.zt=0));exact ⟨h1,h2,h3,rfl⟩
 ·exact ⟨s,Ca.as.refl c,λm x h=>h,rfl⟩
structure ChS (c:Ca) (ro:Ro) (r:Rc) (y:Int × Ca × Ro):Prop where
 sv:Sv y.2.1
 rest:y.2.1.rest
 on:c.on y.2.1
 fin:y.2.1.lg.fin<=c.lg.fin+406
 blocks:y.2.1.lg.blocks<=c.lg.blocks+2
 res:(∃ x,rA (r.zU,r.no.toNat) (c.pg (r.zU,r.no.toNat)) c.lg.fin r=some x/\y.1=0/\y.2.1.pg (r.zU,r.no.toNat)=x/\(∀ m,m≠(r.zU,r.no.toNat)->c.tC m->y.2.1.pg m=c.pg m)/\y.2.2=ai (r.zU,r.no.toNat) ro (ZC (ua r.no.toNat x)).1) \/
  (y.1≠0/\(∀ m,c.tC m->y.2.1.pg m=c.pg m)/\y.2.2=ro/\y.2.1.lg.fin=c.lg.fin/\y.2.1.lg.blocks=c.lg.blocks/\((rA (r.zU,r.no.toNat) (c.pg (r.zU,r.no.toNat)) c.lg.fin r=none/\y.1=2)\/(c.lg.size<c.lg.blocks+2/\y.1=5)\/c.dk.uh y.1))
theorem kf {c:Ca} (s:Sv c) (r0:c.rest) (ro:Ro) {r:Rc} (o:r.ok) (hm:r.may=true) (h1:r.k≠1) (h6:r.k≠6) (hi:c.tC (r.zU,r.no.toNat)) (hf:c.lg.fin<999999990000):ChS c ro r (c.yy ro r):=by
 have jI:(r.zU,r.no.toNat).2<65536:=by have:=o.no;show r.no.toNat<_;omega
 obtain ⟨f1,f2,f3,f4,f5⟩:=lh s r0 hi jI;unfold Ca.yy;rw [if_pos ⟨hm,h1,h6⟩];by_cases he:(c.yh (r.zU,r.no.toNat)).1.2=0
 case neg =>
  rw [if_neg he];exact ⟨f1,f4 he,f2.on,by show (c.yh (r.zU,r.no.toNat)).2.lg.fin<=_;rw [f2.lg.fin];omega,by show (c.yh (r.zU,r.no.toNat)).2.lg.blocks<=_;rw [f2.lg.blocks];omega,.inr ⟨he,f2.pg,rfl,f2.lg.fin,f2.lg.blocks,.inr (.inr f3)⟩⟩
 rw [if_pos he];obtain ⟨e1,hh⟩:=f5 he;have z52:=f2.lg.fin;rw [e1,z52];generalize Tg:(c.yh (r.zU,r.no.toNat)).2=c2 at *;generalize hii:(r.zU,r.no.toNat)=i at *;have vk:r.no.toNat=i.2:=by rw [<- hii]
 have X7:(c.pg i).length=224:=by
  obtain ⟨j,l,g1,g2,g3,_⟩:=hh;rw [<- g3];exact (f1.ok.fr _ (lx g2)).p
 have z53:c.lg.fin<18446744073709551616:=O_;cases Jq:rA i (c.pg i) c.lg.fin r with
 | none =>
  simp only;obtain ⟨u1,u2,u3⟩:=ng f1 hh;have a:=f2.trans u2;exact ⟨u1,u3,a.on,by show (c2.xm i).lg.fin<=_;rw [a.lg.fin];omega,by show (c2.xm i).lg.blocks<=_;rw [a.lg.blocks];omega,.inr ⟨by show ¬ (2:Int)=0;decide,a.pg,rfl,a.lg.fin,a.lg.blocks,.inl ⟨by rw [hii];exact Jq,rfl⟩⟩⟩
 | some x =>
  simp only;have hx:=VY (r:=r) (p:=c.pg i) (x:=x) X7 z53 o hm h1 h6 (by rw [hii];exact Jq);rw [hii] at hx;unfold Ca.kM;have lo:(c2.oC i r x).ok/\(c2.oC i r x).may=true:=by
   unfold Ca.oC;split
   ·exact ⟨W5 jI hx.1,Vl _ _⟩
   ·exact ⟨o,hm⟩
  obtain ⟨b1,b2⟩:=TJ lo.2 lo.1;rcases UI f1.lg b1 b2 (by rw [z52];omega) with ⟨g1,g2,g3⟩ | ⟨g1,g2,g3,g4,g5,g6,g7,g8,g9⟩
  ·rw [if_neg (show ¬ (c2.lg.append (c2.oC i r x).enc).1.2=0 by rw [g1];decide)];obtain ⟨u1,u2,u3⟩:=ng f1 hh;have a:=f2.trans u2;rw [f2.lg.blocks,f2.lg.size] at g3;exact ⟨u1,u3,a.on,by show (c2.xm i).lg.fin<=_;rw [a.lg.fin];omega,by show (c2.xm i).lg.blocks<=_;rw [a.lg.blocks];omega,.inr ⟨by show ¬ (c2.lg.append (c2.oC i r x).enc).1.2=0;rw [g1];decide,a.pg,rfl,a.lg.fin,a.lg.blocks,.inr (.inl ⟨g3,g1⟩)⟩⟩
  ·rw [if_pos g1];generalize hlg:(c2.lg.append (c2.oC i r x).enc).2=pW at *;obtain ⟨p1,p2,p3,p4,p5,p6,p7,p8,p9⟩:=z2m f1 hh hx.1 hx.2 g2 g6 g7;generalize ({ c2 with lg:=pW }:Ca).oL i x=c4 at *;obtain ⟨n1,n2,n3,n4⟩:=Lv p1 i x ro;obtain ⟨u1,u2,u3⟩:=ng n1 (n3 _ _ p2);have a:=n2.trans u2;have zdG:∀ m,c.tC m->c4.tC m:=λm hm=>Ca.gq (p5.trans f2.zH) (p6.trans f2.zU) hm;have efin':((uZ i x c4 ro).1.xm i).lg.fin=c.lg.fin+((c2.oC i r x).enc.length+6):=by rw [a.lg.fin,p8,g3,z52]
   refine ⟨u1,u3,⟨a.zH.trans (p5.trans f2.zH),a.zU.trans (p6.trans f2.zU),a.wE.trans (p7.trans f2.wE),?_,?_,?_,?_,?_,?_⟩,?_,?_,.inl ⟨x,?_,rfl,?_,λm cK hm2=>?_,?_⟩⟩
   ·show ((uZ i x c4 ro).1.xm i).lg.size=_;rw [a.lg.size,p8,g7,f2.lg.size]
   ·show ((uZ i x c4 ro).1.xm i).lg.at_=_;rw [a.lg.at_,p8,g6,f2.lg.at_]
   ·show ((uZ i x c4 ro).1.xm i).lg.ep=_;rw [a.lg.ep,p8,g8,f2.lg.ep]
   ·show ((uZ i x c4 ro).1.xm i).lg.d=_;rw [a.lg.d,p8,g5,f2.lg.d]
   ·show _<=((uZ i x c4 ro).1.xm i).lg.fin;omega
   ·have:=a.dk;rw [p9] at this;exact f2.dk.trans this
   ·show ((uZ i x c4 ro).1.xm i).lg.fin<=_;omega
   ·show ((uZ i x c4 ro).1.xm i).lg.blocks<=_;rw [a.lg.blocks,p8];have:=f2.lg.blocks;omega
   ·rw [hii];exact Jq
   ·rw [hii];show ((uZ i x c4 ro).1.xm i).pg i=x;rw [a.pg i (zdG i hi),p4]
   ·rw [hii] at cK;show ((uZ i x c4 ro).1.xm i).pg m=_;rw [a.pg m (zdG m hm2),p3 m cK,f2.pg m hm2]
   ·rw [hii];show (uZ i x c4 ro).2=_;rw [n4,vk]
section
set_option maxRecDepth 100000
noncomputable section
variable (Q:yO->AH->Prop) (ds:List AD) (n n1 n2:Nat) (x0 x1 x4 x5 x6 x7 x8 x9 x10 x11 x12 x14 x62 x66 x68 x73 x74:V) (a0 a1 a2:V) (h:AH)
def B72:=bd Tryz.f72
def R72:List ResultVar:=[.cell 4 163,.tmp 5]
abbrev N72:=29
def K72:KT:=(sQ lF (sQ lF (sQ lF (jN (sQ lF (.two (sQ lF lF [4,5]) lF) [0,1,4,6,7,8,18]) (sQ lF (sQ lF lF [4,5]) [1,4,7]) [0,1,4,6,7]) [0,1,4,6,7,8]) [0,1,4,6]) [0,1,4])
def zce:Prop:=xG Pg N72 B72 K72 [1,1,1,1] [] (zn Pg R72 Q) [(0,x0),(1,x1),(4,x4),(6,x6),(7,x7)] h
theorem RT:zce Q x0 x1 x4 x6 x7 h=(
 z0 (z0o h 43 x6) λb c =>
 z0q 18 [x0,b] c (zS (λd e =>
 z0 (z0o e 33 x7) λf g =>
 z0q 69 [x1,f] g (zS (λi j =>
 z0 (z03 (zm i 0) j) λk l =>
 z0 (z03 (zm i 1) l) λm o =>
 z0 (z0t o 163 x4 k) λ_ p =>
 yq (zX Pg [(4,x4),(5,m)] p R72) λv=>Q (.ret v) p) λv h=>Q (.panic v) h)) λv h=>Q (.panic v) h)):=K_
theorem C72 (c :
 z0 (z0D h 163) λb c =>
 z0 (z03 (z0y 43 [(1,a1)]) c) λd e =>
 z0 (z0D e 43) λf g =>
 z0 (z0t g 43 f d) λ_ i =>
 z0 (z0o i 43 f) λj k =>
 z0q 15 [a0,j] k (zS (λl m =>
 z0 (z03 (zm l 0) m) λo p =>
 z0 (z03 (zm l 1) p) λq r =>
 z0 (z0D r 33) λs t =>
 z0 (z0t t 33 s o) λ_ u =>
 z0 (z03 (z0s .neq 36 q (V.int .i64 0) true) u) λw y =>
 zP w (
 z0 (z03 (z0y 163 []) y) λz A =>
 z0 (z0t A 163 b z) λ_ B =>
 yq (zX Pg [(4,b),(5,q)] B R72) λv=>Q (.ret v) B) (
 z7 (zce Q a0 a1 b f s y))) λv h=>Q (.panic v) h)):z0q 72 [a0,a1] h Q :=
 mkC Tryz.func72 B72 N72 K72 R72 c
def B77:=bd Tryz.f77
def TU:List ResultVar:=[.cell 6 163,.tmp 7]
abbrev N77:=94
def K77:KT:=(sQ lF (jN (sQ lF (.two (sQ lF lF [6,7]) lF) [0,1,5,6,18]) (sQ lF (sQ lF (jN (sQ lF (.two (sQ lF lF [6,7]) lF) [0,1,5,6,8,9,10,32]) (jN (sQ lF (.two (sQ lF lF [6,7]) lF) [0,1,5,6,8,9,10,35]) (sQ lF (sQ lF (jN (sQ lF (.two (sQ lF lF [6,7]) lF) [1,5,6,10,11,49]) (sQ lF (jN (jN (.rm [[5,6,12,62,66],[5,6,12,68,73]]) (.two (sQ lF lF [6,7]) lF) [5,6,12,74]) (sQ lF (jN (sQ lF (.two (sQ lF lF [6,7]) lF) [6,10,12,14,85]) (sQ lF lF [6,7]) [6,12,14]) [6,10,12,14]) [5,6,12]) [1,5,6,12,13]) [1,5,6,11]) [1,5,6,10,11]) [1,5,6,8,9]) [0,1,5,6,8,9]) [0,1,5,6,8,9,10]) [0,1,5,6,8,9,10]) [0,1,5,6,8]) [0,1,5,6]) [0,1,5,6])
def W77 (p l:List Nat) (e:zJ):Prop:=xG Pg N77 B77 K77 p l (zn Pg TU Q) e h
def z8W:Prop:=W77 Q h [1,1,1,1,1,1,1,1,1,1,1,1,1] [] [(6,x6),(12,x12),(14,x14)]
def z73:Prop:=W77 Q h [1,1,1,1,1,1,1,1,1,1,1] [] [(5,x5),(6,x6),(12,x12)]
def zbA:Prop:=W77 Q h [1,1,1,1,1,1,1,1,1,1,0,1] [] [(5,x5),(6,x6),(12,x12),(74,x74)]
def z2R:Prop:=yu Pg N77 B77 K77 [1,1,1,1,1,1,1,1,1,1,0,0] 4 2 [] (zn Pg TU Q) [(5,x5),(6,x6),(12,x12),(68,x68),(73,x73)] h
def z2L:Prop:=yu Pg N77 B77 K77 [1,1,1,1,1,1,1,1,1,1,0,0] 2 1 [] (zn Pg TU Q) [(5,x5),(6,x6),(12,x12),(62,x62),(66,x66)] h
def z68:Prop:=W77 Q h [1,1,1,1,1,1,1,1,1] [] [(1,x1),(5,x5),(6,x6),(11,x11)]
def z8Y:Prop:=W77 Q h [1,1,1,1,1,1] [] [(0,x0),(1,x1),(5,x5),(6,x6),(8,x8),(9,x9)]
def zaj:Prop:=W77 Q h [1,1,1,1,1] [] [(0,x0),(1,x1),(5,x5),(6,x6),(8,x8),(9,x9),(10,x10)]
def zbJ:Prop:=W77 Q h [1,1] [] [(0,x0),(1,x1),(5,x5),(6,x6)]
theorem G3:z8W Q x6 x12 x14 h=(
 z0 (z03 (z0e 60 x12 2) h) λb c =>
 z0 (z0o c 56 b) λd e =>
 z0 (z03 (z0e 60 x12 3) e) λf g =>
 z0 (z0o g 58 f) λi j =>
 z0 (z0o j 73 x14) λk l =>
 z0 (z03 (z0y 163 [(1,d),(2,i),(3,k)]) l) λm o =>
 z0 (z0t o 163 x6 m) λ_ p =>
 yq (zX Pg [(6,x6),(7,(V.int .i64 0))] p TU) λv=>Q (.ret v) p):=K_
theorem GD:z73 Q x5 x6 x12 h=(
 z0 (z03 (z0e 163 x5 3) h) λb c =>
 z0 (z0o c 73 b) λd e =>
 z0 (z03 (z0e 60 x12 4) e) λf g =>
 z0 (z0o g 9 f) λi j =>
 z0q 120 [d,i] j (zS (λk l =>
 z0 (z03 (zm k 0) l) λm o =>
 z0 (z03 (zm k 1) o) λp q =>
 z0 (z0D q 73) λr s =>
 z0 (z0t s 73 r m) λ_ t =>
 z0 (z03 (z0s .neq 36 p (V.int .i64 0) true) t) λu w =>
 zP u (
 z0 (z03 (z0y 163 []) w) λy z =>
 z0 (z0t z 163 x6 y) λ_ A =>
 yq (zX Pg [(6,x6),(7,p)] A TU) λv=>Q (.ret v) A) (
 z7 (z8W Q x6 x12 r w))) λv h=>Q (.panic v) h)):=K_
theorem CF:zbA Q x5 x6 x12 x74 h=(
 zP x74 (
 z0 (z03 (z0y 163 []) h) λb c =>
 z0 (z0t c 163 x6 b) λ_ d =>
 yq (zX Pg [(6,x6),(7,(V.int .i64 2))] d TU) λv=>Q (.ret v) d) (
 z7 (z73 Q x5 x6 x12 h))):=K_
theorem C2:z2R Q x5 x6 x12 x68 x73 h=(
 z0 (yc x68 (V.bool true) x73 h) λb c =>
 z7 (zbA Q x5 x6 x12 b c)):=K_
theorem G4:z2L Q x5 x6 x12 x62 x66 h=(
 z0 (yc x62 (V.bool true) x66 h) λb c =>
 vp b false (
 z0 (z03 (z0e 60 x12 2) c) λd e =>
 z0 (z0o e 56 d) λf g =>
 z0 (z03 (z0e 163 x5 1) g) λi j =>
 z0 (z0o j 56 i) λk l =>
 z0 (z03 (z0s .geq 56 f k false) l) λm o =>
 z7 (z2R Q x5 x6 x12 b m o)) (z7 (z2R Q x5 x6 x12 b yw c))):=K_
theorem EG:z68 Q x1 x5 x6 x11 h=(
 z0 (z0o h 50 x11) λb c =>
 z0 (z03 (z0e 163 x5 2) c) λd e =>
 z0 (z03 (z0e 58 d 1) e) λf g =>
 z0 (z0o g 5 f) λi j =>
 z0q 119 [b,i] j (zS (λk l =>
 z0 (z03 (zm k 0) l) λm o =>
 z0 (z03 (zm k 1) o) λp q =>
 z0 (z0D q 60) λr s =>
 z0 (z0t s 60 r m) λ_ t =>
 z0 (z03 (qd .not p) t) λu w =>
 vp u false (
 z0 (z03 (z0e 60 r 1) w) λy z =>
 z0 (z0o z 41 y) λA B =>
 z0 (z03 (z0s .neq 41 A x1 false) B) λC D =>
 z7 (z2L Q x5 x6 r u C D)) (z7 (z2L Q x5 x6 r u yw w))) λv h=>Q (.panic v) h)):=K_
theorem EW:z8Y Q x0 x1 x5 x6 x8 x9 h=(
 z0 (z0o h 43 x8) λb c =>
 z0q 18 [x0,b] c (zS (λd e =>
 z0 (z03 (z0e 43 x8 1) e) λf g =>
 z0 (z0o g 41 f) λi j =>
 z0 (z0o j 33 x9) λk l =>
 z0q 19 [i,k] l (zS (λm o =>
 z0 (z03 (zm m 0) o) λp q =>
 z0 (z03 (zm m 1) q) λr s =>
 z0 (z0D s 50) λt u =>
 z0 (z0t u 50 t p) λ_ w =>
 z0 (z03 (z0s .neq 36 r (V.int .i64 0) true) w) λy z =>
 zP y (
 z0 (z03 (z0y 163 []) z) λA B =>
 z0 (z0t B 163 x6 A) λ_ C =>
 yq (zX Pg [(6,x6),(7,r)] C TU) λv=>Q (.ret v) C) (
 z7 (z68 Q x1 x5 x6 t z))) λv h=>Q (.panic v) h)) λv h=>Q (.panic v) h)):=K_
theorem Cz:zaj Q x0 x1 x5 x6 x8 x9 x10 h=(
 z0 (z03 (z0s .neq 36 x10 (V.int .i64 0) true) h) λb c =>
 zP b (
 z0 (z03 (z0y 163 []) c) λd e =>
 z0 (z0t e 163 x6 d) λ_ f =>
 yq (zX Pg [(6,x6),(7,x10)] f TU) λv=>Q (.ret v) f) (
 z7 (z8Y Q x0 x1 x5 x6 x8 x9 c))):=K_
theorem cG:zbJ Q x0 x1 x5 x6 h=(
 z0 (z03 (z0e 163 x5 2) h) λb c =>
 z0 (z03 (z0e 58 b 0) c) λd e =>
 z0 (z0o e 41 d) λf g =>
 z0 (z03 (z0s .sub 41 f (V.int .u16 1) true) g) λi j =>
 z0 (z03 (z0y 43 [(0,(V.bool true)),(1,i)]) j) λk l =>
 z0 (z0D l 43) λm o =>
 z0 (z0t o 43 m k) λ_ p =>
 z0 (z0o p 43 m) λq r =>
 z0q 15 [x0,q] r (zS (λs t =>
 z0 (z03 (zm s 0) t) λu w =>
 z0 (z03 (zm s 1) w) λy z =>
 z0 (z0D z 33) λA B =>
 z0 (z0t B 33 A u) λ_ C =>
 z0 (z03 (z0s .eql 36 y (V.int .i64 1) true) C) λD E =>
 zP D (
 z0 (z03 (z0y 163 []) E) λF G =>
 z0 (z0t G 163 x6 F) λ_ H =>
 yq (zX Pg [(6,x6),(7,(V.int .i64 2))] H TU) λv=>Q (.ret v) H) (
 z7 (zaj Q x0 x1 x5 x6 m A y E))) λv h=>Q (.panic v) h)):=K_
theorem C77 (c :
 z0 (z0G h 163 a2) λb c =>
 z0 (z0D c 163) λd e =>
 z0 (z03 (z0e 163 b 2) e) λf g =>
 z0 (z03 (z0e 58 f 0) g) λi j =>
 z0 (z0o j 41 i) λk l =>
 z0 (z03 (z0s .eql 41 k (V.int .u16 0) true) l) λm o =>
 zP m (
 z0 (z03 (z0y 163 []) o) λp q =>
 z0 (z0t q 163 d p) λ_ r =>
 yq (zX Pg [(6,d),(7,(V.int .i64 1))] r TU) λv=>Q (.ret v) r) (
 z7 (zbJ Q a0 a1 b d o))):z0q 77 [a0,a1,a2] h Q :=
 mkC Tryz.func77 B77 N77 K77 TU c
end
end
def Ca.yg (c:Ca) (no:Nat):(Dt × Int) × Ca:=open Classical in
 if (c.yh (false,no)).1.2=0 then
  (if ur no (c.yh (false,no)).1.1 then (rq (c.yh (false,no)).1.1,0) else (Dt.z,2),(c.yh (false,no)).2.xm (false,no))
 else ((Dt.z,(c.yh (false,no)).1.2),(c.yh (false,no)).2)
def Er (x:Dt × Int):V:=.yX [x.1.v,.int .i64 x.2]
section
variable {h:AH} {p:Nat} {n:ZD} {c:Ca}
theorem Yf {rt:List UInt8->Bool} {bl:List UInt8} {c:Ca} {i:vd} (o2:(c.wA rt bl i).2.ok) (hh:(c.wA rt bl i).2.holds i (c.wA rt bl i).1.1):(c.wA rt bl i).1.1.length=224:=by
 obtain ⟨j,y1,y2,y3,y4⟩:=hh;have:=o2.fr ((c.wA rt bl i).2.frame j) (by
  unfold Ca.frame;rw [List.getElem?_eq_getElem y2];exact List.getElem_mem y2)
 rw [<- y4];exact this.p
theorem Tw {h0 h:AH} {n4:Nat} {w:V} {d:Dt} {e:Int} {T:xr} {Q:yO->AH->Prop} (q:zb T h0 h) (l4:h0.next<=n4) (f4:h.m n4=some (.cells true (.one 163) w)) (hx:zf Pg d.v 163=true)
 (k:∀ h',zb T h0 h'->zb [(0,163,0)] h h'->Q (.ret (.yX [d.v,.int .i64 e])) h') :
 z0 (zh Pg h 163 (.ptr (some ⟨n4,.one 163,[]⟩)) d.v) λ_ h1=>yq (zX Pg [(4,.ptr (some ⟨n4,.one 163,[]⟩)),(5,.int .i64 e)] h1 R72) λv=>Q (.ret v) h1:=by
 refine zq (zM (p:=[]) f4 K_ rfl hx rfl) λh2 u2=>?_;have e1:=zR (P:=Pg) (t:=163) (p:=[]) u2.at_ K_ (w:=d.v) rfl;simp only [z9] at e1;have e2:=(zK e1).1;refine yr (show zX Pg _ _ R72=some [d.v,.int .i64 e] by simp [R72,zX,zJ.get,e2]) ?_;exact k h2 (q.ya u2 l4) (zb.vP u2 f4 rfl rfl)
theorem cD (k:gF h p n c) (own:vx h) {no:Nat} (vk:no<65536) (b:c.dR):z0q 72 [j4 p,.int .u16 no] h (xj Yx h (Er (c.yg no).1) λh'=>gF h' p n (c.yg no).2):=by
 obtain ⟨lv,kb⟩:=k;have okc:=kb.ok;have okh:=kb.ck.ok.hand;refine C72 _ _ _ _ ?_;refine zq (yA PD (tL kW)) λh1 u1=>?_;have n1:=u1.next;have q1:zb [] h h1:=zb.new u1;refine z6 (show zD Pg 43 [(1,.int .u16 no)]=some (pV (false,no)) from K_) ?_;refine zq (yA (show xk Pg 43=some (pV (false,0)) from K_) (fJ _)) λh2 u2=>?_;have n2:=u2.next;have q2:zb [] h1 h2:=zb.new u2;refine zq (zM (p:=[]) u2.at_ K_ rfl (fJ (false,no)) rfl) λh3 u3=>?_;have n3:=u3.next;have NN:zb [] h1 h3:=q2.ya u3 (Nat.le_refl _);have ez:=q1.trans NN;have f1:=NN.at u1.at_ O_ rfl;have f3:=u3.at_;refine zl f3 K_ (w:=pV (false,no)) rfl ?_;refine xN (Xm (i:=(false,no)) (rt:=qr (false,no)) (bl:=W6 (false,no)) (kb.zA ez rfl) (ez.own own) vk b (λx h hx=>WA hx vk h) (λh=>WR vk h) (tO _)) λh4 q4 k4=>?_;have n4:=q4.next;have f14:=q4.at f1 O_ rfl;have f34:=q4.at f3 O_ rfl;have Jp:=mN (rt:=qr (false,no)) (bl:=W6 (false,no)) (i:=(false,no)) okc okh;have gB:=Yf (rt:=qr (false,no)) (bl:=W6 (false,no)) (i:=(false,no)) k4.ok;have J3:=oJ (qr (false,no)) (W6 (false,no)) c (false,no);unfold Ca.yg Ca.yh;generalize c.wA (qr (false,no)) (W6 (false,no)) (false,no)=ft at *;obtain ⟨⟨x,e⟩,c2⟩:=ft;simp only at Jp gB J3 k4 ⊢;refine z6 (show zm (ZY (x,e)) 0=some (.agg (zd x)) from rfl) ?_;refine z6 (show zm (ZY (x,e)) 1=some (.int .i64 e) from rfl) ?_;refine zq (yA na (xf (zI 224))) λh5 u5=>?_;have n5:=u5.next;have q5:zb [] h4 h5:=zb.new u5;have hx:x.length=224:=by
  by_cases e0:e=0
  ·exact gB (Jp e0)
  ·exact J3 e0
 refine zq (zM (p:=[]) u5.at_ K_ rfl (xf hx) rfl) λh6 u6=>?_;have n6:=u6.next;have Vf:zb [] h4 h6:=q5.ya u6 (Nat.le_refl _);have f16:=Vf.at f14 O_ rfl;have f36:=Vf.at f34 O_ rfl;have f56:=u6.at_;have k6:=k4.zA Vf rfl;have Tj:zb Yx h h6:=(ez.sub rfl).trans (q4.trans (Vf.sub rfl));by_cases e0:e=0
 ·subst e0;rw [if_pos rfl];refine yx rfl ?_;apply yZ;refine sm (RT ..) ?_;refine zl f36 K_ (w:=pV (false,no)) rfl ?_;obtain ⟨lv6,kb6⟩:=k6;obtain ⟨j,y1,y2,y3,y4⟩:=Jp rfl;refine xN (Pp kb6 (false,no) y1 y3) λh7 q7 k7=>?_;have n7:=q7.next;have f17:=q7.at f16 O_ rfl;have f57:=q7.at f56 O_ rfl;have Va:zb Yx h h7:=Tj.trans (q7.sub rfl);refine zl f57 K_ (w:=.agg (zd x)) rfl ?_;refine yf (ME hx vk h7) ?_;have eu:c2.xm (false,no)={ c2 with ck:={ c2.ck with pins:=c2.ck.pins.set j (c2.ck.pins.getD j 0-1) } }:=by unfold Ca.xm;rw [y1]
  rw [eu];by_cases gd:ur no x
  ·rw [PK gd,if_pos gd];apply wj;apply wl;refine Tw Va (Nat.le_refl _) f17 (tL (rZ hx)) λh8 q8 A9=>?_;exact ⟨rfl,q8,⟨lv6,k7.zA A9 rfl⟩⟩
  ·rw [P0 gd,if_neg gd];apply wj;apply wl;refine Tw Va (Nat.le_refl _) f17 (tL kW) λh8 q8 A9=>?_;exact ⟨rfl,q8,⟨lv6,k7.zA A9 rfl⟩⟩
 ·rw [if_neg e0];refine xe e0 ?_;apply xz;refine z6 (show zD Pg 163 []=some Dt.z.v from K_) ?_;refine Tw Tj (Nat.le_refl _) f16 (tL kW) λh8 q8 A9=>?_;exact ⟨rfl,q8,k6.zA A9 rfl⟩
end
section
set_option maxRecDepth 100000
noncomputable section
variable (Q:yO->AH->Prop) (ds:List AD) (n n1 n2:Nat) (x0 x1 x2 x3 x5 x6 x7 x9 x10 x11 x12 x15:V) (a0 a1 a2 a3:V) (h:AH)
def B28:=bd Tryz.f28
def R28:List ResultVar:=[.tmp 8]
abbrev N28:=99
def K28:KT:=(sQ lF (sQ lF (jN (sQ lF (.two (sQ lF lF [8]) lF) [0,1,2,7,9,10,28]) (jN (sQ lF (.two (sQ lF lF [8]) lF) [0,1,2,7,9,33]) (sQ (.nG [10,11]) (sQ (.NG [5] [] 0 5) (jN (sQ lF (.two (sQ lF lF [8]) lF) [0,1,2,7,9,11,12,54]) (sQ (.flo [3,5,10,11] [10] 11) (sQ lF (jN (sQ lF (sQ lF (.two (sQ lF lF [8]) lF) [0,1,2,7,9,12,15,18,75]) [0,1,2,7,9,12,15,18]) (sQ lF (sQ (.NG [10] [] 0 10) (jN (sQ lF (.two lF lF) [0,10,19,94]) (sQ lF lF [8]) [10]) [0,10,19]) [0,1,2,7,9,19]) [0,1,2,7,9,12,15]) [0,1,2,7,9,11,12,15,17]) [0,1,2,7,9,11,12,15]) [0,1,2,7,9,11,12]) [0,1,2,7,9,11,12,13]) [0,1,2,7,9,11]) [0,1,2,7,9]) [0,1,2,7,9]) [0,1,2,7,9,10]) [0,1,2,7])
def W28 (p l:List Nat) (e:zJ):Prop:=xG Pg N28 B28 K28 p l (zn Pg R28 Q) e h
def E3:Prop:=W28 Q h [1,1,1,1,1,1,1,1,1,1,1,1,1] [] [(10,x10)]
def zbr:Prop:=W28 Q h [1,1,1,1,1,1,1,1,1,1] [] [(0,x0),(1,x1),(2,x2),(7,x7),(9,x9),(12,x12),(15,x15)]
def z96:Prop:=W28 Q h [1,1,1,1,1,1,1] [] [(0,x0),(1,x1),(2,x2),(7,x7),(9,x9),(11,x11),(12,x12)]
def zci:Prop:=W28 Q h [1,1,1,1] [] [(0,x0),(1,x1),(2,x2),(7,x7),(9,x9)]
def z2a:Prop:=W28 Q h [1,1,1] [] [(0,x0),(1,x1),(2,x2),(7,x7),(9,x9)]
theorem B2:E3 Q x10 h=(
 Q (.ret x10) h):=K_
theorem DC:zbr Q x0 x1 x2 x7 x9 x12 x15 h=(
 z0 (z03 (z0s .add 3 x12 (V.int .i64 1) true) h) λb c =>
 z0 (z03 (z0F c 3 41 b) c) λd e =>
 z0 (z03 (z0y 58 [(0,d),(1,x15)]) e) λf g =>
 z0 (z0D g 58) λi j =>
 z0 (z0t j 58 i f) λ_ k =>
 zc (zj (z03 (z0y 43 [(1,x1)]) k)) λl =>
 zc (zj (z0o k 58 i)) λm =>
 (
 zc (zj (z03 (z0e 163 x9 3) k)) λo =>
 zc (zj (z0o k 73 o)) λp =>
 (
 zc (zj (z0o k 73 x7)) λq =>
 (
 ∃ r,z0q 73 [p,q] k (zO r k)/\(
 (
 zc (zj (z03 (z0y 95 [(0,(V.int .u8 2)),(1,l),(3,x2),(4,m),(5,r)]) k)) λs =>
 z0q 40 [x0,s] k (zS (λt u=>(
 z0 (z03 (z0s .neq 36 t (V.int .i64 0) true) u) λw y =>
 zP w (
 z0 (z0o y 58 i) λz A =>
 z0q 76 [x0,z] A (zS (λB C =>
 z7 (E3 Q t C)) λv h=>Q (.panic v) h)) (
 z7 (E3 Q t y)))) λ_ _=>False))))))):=K_
theorem EI:z96 Q x0 x1 x2 x7 x9 x11 x12 h=(
 ∃ b,z0q 20 [x0] h (zO b h)/\(
 (
 ∃ c d,z0q 21 [b,x12] h (zO c d)/\(
 zc (zj (z0o d 60 x11)) λe =>
 (z0o h 60 x11=some (e,h))/\(
 ∃ f g,z0q 75 [c,e] d (zO f g)/\(
 zc (zj (z03 (zm f 0) g)) λi =>
 zc (zj (z03 (zm f 1) g)) λj =>
 zc (zj (z03 (zm f 2) g)) λk =>
 ZK h g (tt Pg (λ_=>.xF) (.alloc 50)) λl m=>(
 z0 (z0t m 50 l i) λ_ o=>(
 z0 (z03 (z0F o 3 41 x12) o) λp q =>
 z0 (z03 (z0y 43 [(0,(V.bool true)),(1,p)]) q) λr s =>
 z0 (z0D s 43) λt u =>
 z0 (z0t u 43 t r) λ_ w =>
 z0 (z0o w 43 t) λy z =>
 z0 (z0o z 60 x11) λA B =>
 z0 (z03 (z0y 95 [(0,(V.int .u8 3)),(1,y),(6,j),(7,A)]) B) λC D =>
 z0q 40 [x0,C] D (zS (λE F =>
 z0 (z03 (z0s .neq 36 E (V.int .i64 0) true) F) λG H =>
 zP G (
 Q (.ret E) H) (
 z7 (zbr Q x0 x1 x2 x7 x9 x12 j H))) λv h=>Q (.panic v) h))))))))):=K_
theorem Bd:zci Q x0 x1 x2 x7 x9 h=(
 zc (zj (z03 (z0e 163 x9 1) h)) λb =>
 zc (zj (z0o h 56 b)) λc =>
 (
 zc (zj (z03 (z0e 163 x9 2) h)) λd =>
 zc (zj (z0o h 58 d)) λe =>
 (
 zc (zj (z0o h 73 x7)) λf =>
 (
 zc (zj (z03 (z0e 163 x9 3) h)) λg =>
 zc (zj (z0o h 73 g)) λi =>
 (
 ∃ j,z0q 73 [f,i] h (zO j h)/\(
 (
 zc (zj (z03 (z0y 60 [(0,(V.bool true)),(1,x1),(2,c),(3,e),(4,j)]) h)) λk =>
 z0 (z0D h 60) λl m=>(z0q 73 [f,i] m (zO j m))/\(z0o m 73 g=some (i,m))/\(z0o m 73 x7=some (f,m))/\(z0o m 58 d=some (e,m))/\(z0o m 56 b=some (c,m))/\(
 z0 (z0t m 60 l k) λ_ o=>(
 ∃ p,z0q 20 [x0] o (zO p o)/\(
 (
 zc (zj (z03 (z0e 60 l 4) o)) λq =>
 zc (zj (z0o o 9 q)) λr =>
 (
 zc (zj (z0u o .len [9] [r])) λs =>
 (
 z0q 74 [p,s] o (zS (λt u=>(
 zc (zj (z03 (zm t 0) u)) λw =>
 zc (zj (z03 (zm t 1) u)) λy =>
 z0 (z03 (qd .not y) u) λz A =>
 zP z (
 Q (.ret (V.int .i64 5)) A) (
 z7 (z96 Q x0 x1 x2 x7 x9 l w A)))) λ_ _=>False)))))))))))))):=K_
theorem Pi:z2a Q x0 x1 x2 x7 x9 h=(
 z0 (z03 (z0e 163 x9 1) h) λb c =>
 z0 (z0o c 56 b) λd e =>
 z0 (z03 (z0s .leq 56 x2 d false) e) λf g =>
 zP f (
 Q (.ret (V.int .i64 1)) g) (
 z7 (zci Q x0 x1 x2 x7 x9 g))):=K_
theorem C28 (c :
 z0 (z0G h 73 a3) λb c =>
 z0q 14 [a0] c (zS (λd e =>
 z0q 72 [d,a1] e (zS (λf g =>
 z0 (z03 (zm f 0) g) λi j =>
 z0 (z03 (zm f 1) j) λk l =>
 z0 (z0D l 163) λm o =>
 z0 (z0t o 163 m i) λ_ p =>
 z0 (z03 (z0s .neq 36 k (V.int .i64 0) true) p) λq r =>
 zP q (
 Q (.ret k) r) (
 z7 (z2a Q a0 a1 a2 b m r))) λv h=>Q (.panic v) h)) λv h=>Q (.panic v) h)):z0q 28 [a0,a1,a2,a3] h Q :=
 mkC Tryz.func28 B28 N28 K28 R28 c
def B30:=bd Tryz.f30
def R30:List ResultVar:=[.tmp 4]
abbrev N30:=50
def K30:KT:=(sQ lF (sQ lF (jN (sQ lF (.two (sQ lF lF [4]) lF) [0,1,5,6,16]) (sQ (.NG [4,8,9] [8] 9 4) (jN (sQ lF (.two (sQ lF lF [4]) lF) [0,1,5,6,7,27]) (sQ (.NG [13] [] 0 13) (jN (sQ lF (.two lF lF) [0,5,6,44]) (sQ lF lF [4]) [6]) [0,5,6]) [0,1,5,7]) [0,1,5,6,7]) [0,1,5]) [0,1,5,6]) [0,1])
def W30 (p l:List Nat) (e:zJ):Prop:=xG Pg N30 B30 K30 p l (zn Pg R30 Q) e h
def Ha:Prop:=W30 Q h [1,1,1,1,1,1,1] [] [(6,x6)]
def z6z:Prop:=W30 Q h [1,1,1,1,1] [] [(0,x0),(1,x1),(5,x5),(7,x7)]
def z7X:Prop:=W30 Q h [1,1,1] [] [(0,x0),(1,x1),(5,x5)]
theorem Dc:Ha Q x6 h=(
 Q (.ret x6) h):=K_
theorem CE:z6z Q x0 x1 x5 x7 h=(
 zc (zj (z03 (z0y 43 [(1,x1)]) h)) λb =>
 zc (zj (z03 (z0e 163 x7 1) h)) λc =>
 zc (zj (z0o h 56 c)) λd =>
 (
 zc (zj (z03 (z0e 163 x7 2) h)) λe =>
 zc (zj (z0o h 58 e)) λf =>
 (
 zc (zj (z03 (z0e 163 x5 3) h)) λg =>
 zc (zj (z0o h 73 g)) λi =>
 (
 zc (zj (z03 (z0e 163 x7 3) h)) λj =>
 zc (zj (z0o h 73 j)) λk =>
 (
 ∃ l,z0q 73 [i,k] h (zO l h)/\(
 (
 zc (zj (z03 (z0y 95 [(0,(V.int .u8 2)),(1,b),(3,d),(4,f),(5,l)]) h)) λm =>
 z0q 40 [x0,m] h (zS (λo p=>(
 z0 (z03 (z0s .eql 36 o (V.int .i64 0) true) p) λq r =>
 zP q (
 z0 (z03 (z0e 163 x5 2) r) λs t =>
 z0 (z0o t 58 s) λu w =>
 z0q 76 [x0,u] w (zS (λy z =>
 z7 (Ha Q o z)) λv h=>Q (.panic v) h)) (
 z7 (Ha Q o r)))) λ_ _=>False)))))))):=K_
theorem B0:z7X Q x0 x1 x5 h=(
 ∃ b,z0q 14 [x0] h (zO b h)/\(
 (
 zc (zj (z0o h 163 x5)) λc =>
 (
 z0q 77 [b,x1,c] h (zS (λd e=>(
 zc (zj (z03 (zm d 0) e)) λf =>
 zc (zj (z03 (zm d 1) e)) λg =>
 ZK h e (tt Pg (λ_=>.xF) (.alloc 163)) λi j=>(
 z0 (z0t j 163 i f) λ_ k=>(
 z0 (z03 (z0s .neq 36 g (V.int .i64 0) true) k) λl m =>
 zP l (
 Q (.ret g) m) (
 z7 (z6z Q x0 x1 x5 i m)))))) λ_ _=>False))))):=K_
theorem C30 (c :
 z0q 14 [a0] h (zS (λb c =>
 z0q 72 [b,a1] c (zS (λd e =>
 z0 (z03 (zm d 0) e) λf g =>
 z0 (z03 (zm d 1) g) λi j =>
 z0 (z0D j 163) λk l =>
 z0 (z0t l 163 k f) λ_ m =>
 z0 (z03 (z0s .neq 36 i (V.int .i64 0) true) m) λo p =>
 zP o (
 Q (.ret i) p) (
 z7 (z7X Q a0 a1 k p))) λv h=>Q (.panic v) h)) λv h=>Q (.panic v) h)):z0q 30 [a0,a1] h Q :=
 mkC Tryz.func30 B30 N30 K30 R30 c
def B76:=bd Tryz.f76
def R76:List ResultVar:=[.tmp 4]
abbrev N76:=17
def K76:KT:=(sQ lF (jN (sQ lF (.two (sQ lF lF [4]) lF) [0,3,7]) (sQ lF lF [4]) [0,3]) [0,3])
def z43:Prop:=xG Pg N76 B76 K76 [1,1] [] (zn Pg R76 Q) [(0,x0),(3,x3)] h
theorem HU:z43 Q x0 x3 h=(
 z0 (z03 (z0e 58 x3 0) h) λb c =>
 z0 (z0o c 41 b) λd e =>
 z0 (z03 (z0s .sub 41 d (V.int .u16 1) true) e) λf g =>
 z0 (z03 (z0y 43 [(0,(V.bool true)),(1,f)]) g) λi j =>
 z0 (z03 (z0e 58 x3 1) j) λk l =>
 z0 (z0o l 5 k) λm o =>
 z0 (z03 (z0y 95 [(0,(V.int .u8 4)),(1,i),(6,m)]) o) λp q =>
 z0q 40 [x0,p] q (zS (λr s =>
 Q (.ret r) s) λv h=>Q (.panic v) h)):=K_
theorem C76 (c :
 z0 (z0G h 58 a1) λb c =>
 z0 (z03 (z0e 58 b 0) c) λd e =>
 z0 (z0o e 41 d) λf g =>
 z0 (z03 (z0s .eql 41 f (V.int .u16 0) true) g) λi j =>
 zP i (
 Q (.ret (V.int .i64 1)) j) (
 z7 (z43 Q a0 b j))):z0q 76 [a0,a1] h Q :=
 mkC Tryz.func76 B76 N76 K76 R76 c
end
end
def vg (no:Nat) (sl:UInt8):Rc:={ Rc.z 4 with zU:=true,no:=no,sl:=sl.toNat }
theorem VG {no:Nat} (h:no<65536) (sl:UInt8):(vg no sl).ok:=by
 have:=UInt8.toNat_lt sl;refine ⟨by simp [vg,Rc.z,wT.Jo],λx hx=>?_,by simp [vg,Rc.z],⟨by show (0:Int)<=(no:Int);omega,by show (no:Int)<65536;omega⟩,by simp [vg,Rc.z],by simp [vg,Rc.z],by simp [vg,Rc.z],by simp [vg,Rc.z],⟨by show (0:Int)<=(sl.toNat:Int);omega,by show (sl.toNat:Int)<256;omega⟩,by simp [vg,Rc.z],by simp [vg,Rc.z],by simp [vg,Rc.z],by simp [vg,Rc.z],by simp [vg,Rc.z]⟩;simp only [vg,Rc.z,wT.Jo,List.mem_replicate] at hx;omega
theorem Lt (no:Nat) (sl:UInt8):zD Pg 95 [(0,.int .u8 4),(1,pV (true,no)),(6,.int .u8 sl.toNat)]=some (vg no sl).v:=by
 have h1:=fJ (true,no);refine uR [5,43,33,56,58,9,5,60] SQ K_ ?_;have h3:zf Pg (.int .u8 4) 5=true:=K_;have h4:zf Pg (.int .u8 sl.toNat) 5=true:=K_;simp [xK,h1,h3,h4,wT.rz,Rc.z,Rc.v,uV,uD,uL,vg];rfl
def kU (pg:Nat) (sl:UInt8):V:=.agg [.int .u16 pg,.int .u8 sl.toNat]
def Ca.pR (c:Ca) (ro:Ro) (pg:Nat) (sl:UInt8):Int × Ca × Ro:=if pg=0 then (1,c,ro) else c.yy ro (vg (pg-1) sl)
section
variable {h:AH} {p r:Nat} {n:cp} {f:ZO} {c:Ca} {ro:Ro}
theorem z06 {pg:Nat} (k:BsA h p n f c) (kr:jy h n.pr r ro) (own:vx h) (Oc:pg<65536) (sl:UInt8) (b:c.room) :
 z0q 76 [fD p,kU pg sl] h (ChQ h p r n f (c.pR ro pg sl)):=by
 refine C76 _ _ _ _ ?_;refine zq (yl (show zf Pg (kU pg sl) 58=true from K_)) λh1 u1=>?_;have q1:zb [] h h1:=zb.new u1;have f1:=u1.at_;have k1:=k.zA q1 rfl;have kr1:=kr.zA q1 rfl;refine zx K_ ?_;refine zl f1 K_ (w:=.int .u16 pg) rfl ?_;unfold Ca.pR;by_cases g:pg=0
 ·rw [if_pos g];refine xn O_ ?_;apply xz;exact ⟨rfl,q1.sub rfl,k1,kr1⟩
 ·rw [if_neg g];refine yB O_ ?_;apply yZ;refine sm (HU ..) ?_;refine zx K_ ?_;refine zl f1 K_ (w:=.int .u16 pg) rfl ?_;refine z6 (j8 (jq O_ O_)) ?_;rw [show (pg:Int)-1=((pg-1:Nat):Int) by omega];refine z6 (show zD Pg 43 [(0,.bool true),(1,.int .u16 ((pg-1:Nat):Int))]=some (pV (true,pg-1)) by kernel_rfl) ?_;refine zx K_ ?_;refine zl f1 K_ (w:=.int .u8 sl.toNat) rfl ?_;refine z6 (Lt (pg-1) sl) ?_;refine (iq k1 kr1 (q1.own own) (VG O_ sl) b).mono λe h' q=>?_;obtain ⟨rfl,q2,kk⟩:=q;exact ⟨rfl,(q1.sub rfl).trans q2,kk⟩
end
section
variable {h:AH} {p r:Nat} {x:Ro}
theorem Ir (b:jy h p r x) (i:Nat) (hi:i<1000000):∃ w h',z0q 21 [OY p,.int .i64 i] h (zO w h')/\zb [] h h'/\sZ h' w (x.xu i):=by
 obtain ⟨h1,a1,u1⟩:=yA (h:=h) UK uE;have n1:=u1.next;have q1:zb [] h h1:=zb.new u1;have b1:=b.zA q1 rfl;have f4:=u1.at_;by_cases g:i<x.us.length
 ·have hu:x.us[i]?=some (x.us[i]'g):=List.getElem?_eq_getElem g;generalize x.us[i]'g=u at hu;obtain ⟨ws,b2,b3,b4⟩:=b1.row;obtain ⟨w,w1,⟨sv,rfl,rb⟩,ok⟩:=b4 i u hu;have f0:=b1.room;have o1:=b1.o;have BS:=ok.len;obtain ⟨qL,h3,e3,Xc,q3⟩:=rb.copy TX (by rw [List.length_map];exact ac O_);have n3:=q3.next;obtain ⟨h5,a5,u5⟩:=zM (p:=[]) (q3.at f4 O_ rfl) (show my Pg (.one 50) [] 50=true from K_) rfl (qN u.zZ Xc.jg.dt) rfl;have e1:=zR (P:=Pg) (t:=50) (p:=[]) u5.at_ K_ (w:=vE u.zZ qL) rfl;simp only [z9] at e1;have e5:=(zK e1).1;refine ⟨vE u.zZ qL,h5,?_,(q1.trans q3).ya u5 (Nat.le_refl _),?_⟩
  ·have ia:zy Pg 159 (.y8 (some (⟨r,.row 50,[]⟩,0)) x.us.length) (.int .i64 (i:Nat))=some (.ptr (some ⟨r,.row 50,[i]⟩)):=by
    rw [xW _ K_ O_ O_,show 0+((i:Nat):Int).toNat=i by omega]
   have g0:yF (.agg ws) ([i]++[0])=some (.int .u64 u.zZ):=by simp only [yF,w1,List.cons_append,List.nil_append];rfl
   have g1:yF (.agg ws) ([i]++[1])=some sv:=by simp only [yF,w1,List.cons_append,List.nil_append];rfl
   refine C21 _ _ _ _ ?_;refine ze a1 ?_;refine yf (KQ b1 i hi) ?_;rw [decide_eq_true g];apply wq;apply yZ;refine sm (Cy ..) ?_;apply xy;refine ym K_ ?_;refine zY f0 K_ (w:=.y8 (some (⟨r,.row 50,[]⟩,0)) x.us.length) rfl ?_;refine zg ia ?_;refine ym K_ ?_;refine zY b3 K_ g0 ?_;apply xy;refine ym K_ ?_;refine zY f0 K_ (w:=.y8 (some (⟨r,.row 50,[]⟩,0)) x.us.length) rfl ?_;refine zg ia ?_;refine ym K_ ?_;refine zY b3 K_ g1 ?_;refine ze e3 ?_;refine And.intro (zR (q3.at b3 o1.2 rfl) K_ g0) ?_;refine And.intro (zR (q3.at f0 o1.1 rfl) K_ (w:=.y8 (some (⟨r,.row 50,[]⟩,0)) x.us.length) rfl) ?_;refine zg (z0j _ Xc.jg.dt) ?_;refine ze a5 ?_;refine yr (show zX Pg _ _ Am=some [vE u.zZ qL] by simp [Am,zX,zJ.get,e5]) ?_;exact ⟨rfl,rfl⟩
  ·rw [show x.xu i=u by unfold Ro.xu;rw [hu];rfl];exact ⟨⟨qL,rfl,(Xc.jg.zA (T:=[(0,50,0)]) (zb.vP u5 (q3.at f4 O_ rfl) rfl rfl) rfl).dt⟩,ok⟩
 ·obtain ⟨h5,a5,u5⟩:=zM (p:=[]) f4 (show my Pg (.one 50) [] 50=true from K_) rfl uE rfl;have e1:=zR (P:=Pg) (t:=50) (p:=[]) u5.at_ K_ (w:=vE 0 (.y8 none 0)) rfl;simp only [z9] at e1;have e5:=(zK e1).1;refine ⟨vE 0 (.y8 none 0),h5,?_,q1.ya u5 (Nat.le_refl _),?_⟩
  ·refine C21 _ _ _ _ ?_;refine ze a1 ?_;refine yf (KQ b1 i hi) ?_;rw [decide_eq_false g];apply tv;apply xz;refine z6 SY ?_;refine ze a5 ?_;refine yr (show zX Pg _ _ Am=some [vE 0 (.y8 none 0)] by simp [Am,zX,zJ.get,e5]) ?_;exact ⟨rfl,rfl⟩
  ·rw [show x.xu i=Un.z by unfold Ro.xu;rw [List.getElem?_eq_none O_];rfl];exact sZ.zero _
end
theorem za4 {f:FuncId} {args:List V} {h h1:AH} {v:V} {K X:V->AH->Prop} (c:z0q f args h (zO v h1)) (k:K v h1):z0q f args h (zS K X) :=
 c.mono λe h' g=>by
  cases e with
  | ret v=>obtain ⟨rfl,rfl⟩:=g;exact k
  | panic v=>exact g.elim
theorem ownE {h:AH} {v:V} {u:Un} (b:sZ h v u):∃ sv h',z0q 118 [v] h (zO (vE u.zZ sv) h')/\j0 60 h h' sv (u.zt.map Ol.v)/\zb [] h h':=by
 have hl:=b.ok.len;obtain ⟨⟨sv,rfl,rb⟩,ok⟩:=b;obtain ⟨h1,a1,u1⟩:=yl (h:=h) (qN u.zZ rb);have q1:zb [] h h1:=zb.new u1;have n1:=u1.next;obtain ⟨h2,a2,u2⟩:=yA (h:=h1) UK uE;have q2:zb [] h1 h2:=zb.new u2;have n2:=u2.next;have f1:=q2.at u1.at_ O_ rfl;have Vh:=rb.zA (q1.trans q2) rfl;obtain ⟨qL,h3,e3,Xc,q3⟩:=Vh.copy TX (by rw [List.length_map];exact ac O_);have n3:=q3.next;have f3:=q3.at f1 O_ rfl;have g3:=q3.at u2.at_ O_ rfl;have sh3:=qN u.zZ Xc.jg.dt;obtain ⟨h4,a4,u4⟩:=zM f3 (show my Pg (.one 50) ([]++[1]) 48=true from K_) (w:=sv) rfl (Mr Xc.jg.dt) (v':=vE u.zZ qL) rfl;have n4:=u4.next;have q4:zb [] h h4:=((q1.trans q2).trans q3).ya u4 (Nat.le_refl _);have g4:=(u4.other h1.next O_).trans g3;obtain ⟨h5,a5,u5⟩:=zM (p:=[]) g4 (show my Pg (.one 50) [] 50=true from K_) rfl sh3 rfl;have n5:=u5.next;have e1:=zR (P:=Pg) (t:=50) (p:=[]) u5.at_ K_ (w:=vE u.zZ qL) rfl;simp only [z9] at e1;have e5:=(zK e1).1;refine ⟨qL,h5,?_,(Xc.Xb O_).zA (T:=[(0,50,0)]) ((zb.vP u4 f3 rfl rfl).trans (zb.vP u5 g4 rfl rfl)) rfl,q4.ya u5 O_⟩;refine z6R _ _ _ ?_;refine ze a1 ?_;refine ze a2 ?_;refine zx K_ ?_;refine zl f1 K_ (w:=sv) rfl ?_;refine ze e3 ?_;refine zx K_ ?_;refine ze a4 ?_;refine zl u4.at_ K_ (w:=vE u.zZ qL) rfl ?_;refine ze a5 ?_;refine yr (show zX Pg _ _ Nn=some [vE u.zZ qL] by simp [Nn,zX,zJ.get,e5]) ?_;exact ⟨rfl,rfl⟩
theorem addE {h:AH} {v:V} {u:Un} (b:sZ h v u) {o:Ol} (ho:o.ok) (hv:o.live=true) {i:Nat} (hp:xv u.zt o.dl.length=some i) :
 ∃ w h',z0q 75 [v,o.v] h (zO (.yX [w,.int .u8 i,.int .i64 0]) h')/\zb [] h h'/\sZ h' w ⟨u.zZ,yS u.zt i o⟩:=by
 have hl:=b.ok.len;have hd:=ho.dl;obtain ⟨p1,g1,i1,i2,i3,i4,i5⟩:=wz hp;obtain ⟨⟨sv,rfl,rb⟩,ok⟩:=b;obtain ⟨h1,a1,u1⟩:=yl (h:=h) (qN u.zZ rb);have n1:=u1.next;have q1:zb [] h h1:=zb.new u1;obtain ⟨h2,a2,u2⟩:=yl (h:=h1) (qh o);have n2:=u2.next;have q2:zb [] h1 h2:=zb.new u2;obtain ⟨h3,a3,u3⟩:=yA (h:=h2) UK uE;have n3:=u3.next;have q3:zb [] h2 h3:=zb.new u3;have ez:=(q1.trans q2).trans q3;have f1:=(q2.trans q3).at u1.at_ O_ rfl;have f2:=q3.at u2.at_ O_ rfl;have f3:=u3.at_;have rb3:=rb.zA ez rfl;have b3:sZ h3 (vE u.zZ sv) u:=⟨⟨sv,rfl,rb3⟩,ok⟩
 have mm:=j7 b3;rw [g1] at mm;have pl:=WE b3 (n:=o.dl.length) O_;rw [hp] at pl;have pl':z0q 117 [vE u.zZ sv,.int .i64 o.dl.length] h3 (zO (.int .i64 (i:Nat)) h3):=pl;obtain ⟨qL,h4,c4,O6,q4⟩:=ownE b3;have n4:=q4.next;have g1':=q4.at f1 O_ rfl;have g2':=q4.at f2 O_ rfl;have g3':=q4.at f3 O_ rfl;obtain ⟨h5,a5,u5⟩:=zM (p:=[]) g1' (show my Pg (.one 50) [] 50=true from K_) rfl (qN u.zZ O6.jg.dt) rfl;have n5:=u5.next;have dm:zb [] h h5:=(ez.trans q4).ya u5 (Nat.le_refl _);have V7:j0 60 h h5 qL (u.zt.map Ol.v):=(O6.Xb O_).zA (T:=[(0,50,0)]) (zb.vP u5 g1' rfl rfl) rfl;have k1:=u5.at_;have k2:=(u5.other h1.next O_).trans g2';have k3:=(u5.other h2.next O_).trans g3';have lq:=ip V7.jg.dt;have pre:∀ (w:V) (h':AH),(zP (.bool (decide (i=u.zt.length))) (
  z0 (z03 (z5 Pg 50 (kS h.next) 1) h5) λv51 h52 =>
  z0 (z9 Pg h52 48 v51) λv53 h54 =>
  z0 (z9 Pg h54 60 (.ptr (some ⟨h1.next,.one 60,[]⟩))) λv55 h56 =>
  z0 (yp Pg h56 48 1 [(0,v55)]) λv57 h58 =>
  z0 (zr Pg h58 .append [48,48] [v53,v57]) λv59 h60 =>
  z0 (z03 (z5 Pg 50 (kS h.next) 1) h60) λv61 h62 =>
  z0 (zh Pg h62 48 v61 v59) λ_ h64 =>
  z7 (zbZ (zO w h') (kS h.next) (kS h2.next) (.int .i64 (i:Nat)) h64)) (
  z0 (z03 (z5 Pg 50 (kS h.next) 1) h5) λv71 h72 =>
  z0 (z9 Pg h72 48 v71) λv73 h74 =>
  z0 (z9 Pg h74 60 (.ptr (some ⟨h1.next,.one 60,[]⟩))) λv75 h76 =>
  z0 (z03 (zy Pg 48 v73 (.int .i64 (i:Nat))) h76) λv77 h78 =>
  z0 (zh Pg h78 60 v77 v75) λ_ h80 =>
  z7 (zbZ (zO w h') (kS h.next) (kS h2.next) (.int .i64 (i:Nat)) h80)))->z0q 75 [vE u.zZ sv,o.v] h (zO w h'):=by
  intro w h' c;have gl:yF o.v ([]++[0])=some (.bool true):=by rw [<- hv];rfl
  have gd:yF o.v ([]++[4])=some (.str o.dl):=rfl;refine C75 _ _ _ _ ?_;refine ze a1 ?_;refine ze a2 ?_;refine ze a3 ?_;refine zl f1 K_ rfl ?_;refine yf mm ?_;apply wq;apply xc;refine zx K_ ?_;refine zl f2 K_ gl ?_;apply wq;refine sm (Bu ..) ?_;apply yi;apply xc;refine zx K_ ?_;refine zl f2 K_ gd ?_;refine xq K_ ?_;refine xA O_ ?_;refine sm (Hc ..) ?_;apply yi;refine sm (FJ ..) ?_;apply yZ;refine sm (DF ..) ?_;refine zl f1 K_ rfl ?_;refine zx K_ ?_;refine zl f2 K_ gd ?_;refine xq K_ ?_;refine yf pl' ?_;refine yD O_ ?_;apply yZ;refine sm (E4 ..) ?_;refine zl f1 K_ rfl ?_;refine za4 c4 ?_;refine ze a5 ?_;refine zx K_ ?_;refine zl k1 K_ (w:=qL) rfl ?_;refine ze lq ?_;by_cases ge:i=u.zt.length
  ·rw [decide_eq_true ge] at c;refine xn O_ ?_;exact c
  ·rw [decide_eq_false ge] at c;refine yB O_ ?_;exact c
 have fin:∀ (h7:AH) (oM:V),zb [] h h7->j0 60 h h7 oM ((yS u.zt i o).map Ol.v)->h7.m h.next=some (.cells true (.one 50) (vE u.zZ oM))->h7.m h2.next=some (.cells true (.one 50) (vE 0 (.y8 none 0))) ->
  ∃ h',zbZ (zO (.yX [vE u.zZ oM,.int .u8 i,.int .i64 0]) h') (kS h.next) (kS h2.next) (.int .i64 (i:Nat)) h7/\zb [] h h'/\sZ h' (vE u.zZ oM) ⟨u.zZ,yS u.zt i o⟩:=by
  intro h7 oM q7 Oa m1 m3;obtain ⟨h8,a8,u8⟩:=zM (p:=[]) m3 (show my Pg (.one 50) [] 50=true from K_) rfl (qN u.zZ Oa.jg.dt) rfl;have e1:=zR (P:=Pg) (t:=50) (p:=[]) u8.at_ K_ (w:=vE u.zZ oM) rfl;simp only [z9] at e1;have e5:=(zK e1).1;refine ⟨h8,?_,q7.ya u8 O_,⟨oM,rfl,(Oa.jg.zA (T:=[(0,50,0)]) (zb.vP u8 m3 rfl rfl) rfl).dt⟩,ok.zZ,λx hx=>?_,?_⟩
  ·rw [Fd];refine zl m1 K_ (w:=vE u.zZ oM) rfl ?_;refine bX E_ O_ O_ ?_;refine ze a8 ?_;refine yr (show zX Pg _ _ NU=some [vE u.zZ oM,.int .u8 i,.int .i64 0] by simp [NU,zX,zJ.get,e5]) ?_;exact ⟨rfl,rfl⟩
  ·have hx:x∈yS u.zt i o:=hx;unfold yS at hx;split at hx
   ·rcases List.mem_append.1 hx with hx | hx
    ·exact ok.zt x hx
    ·rw [List.mem_singleton] at hx;subst hx;exact ho
   ·rcases List.mem_or_eq_of_mem_set hx with hx | rfl
    ·exact ok.zt x hx
    ·exact ho
  ·show (yS u.zt i o).length<=1000000;have:=px g1;unfold yS;split
   ·simp;omega
   ·simp;omega
 by_cases ge:i=u.zt.length
 ·rw [decide_eq_true ge] at pre;obtain ⟨h6,a6,u6⟩:=mV (h:=h5) (t:=48) (e:=60) K_ Mw (qh o);have n6:=u6.next;have q6:zb [] h5 h6:=zb.new u6;have A3:=V7.zA q6 rfl;obtain ⟨oM,h7,e7,Oa,q7,qq7⟩:=A3.app O_ TX (wV (by exact u6.at_)) S_ (ac (by rw [List.length_map];simp;omega));have n7:=q7.next;have m1:=q7.at (q6.at k1 O_ rfl) O_ rfl;have m3:=q7.at (q6.at k3 O_ rfl) O_ rfl;obtain ⟨h8,a8,u8⟩:=zM m1 (show my Pg (.one 50) ([]++[1]) 48=true from K_) (w:=qL) rfl (Mr Oa.jg.dt) (v':=vE u.zZ oM) rfl;have n8:=u8.next;have Jm:zb [] h h8:=(qq7 _ (dm.trans q6)).ya u8 (Nat.le_refl _);obtain ⟨h',j1,j2,j3⟩:=fin h8 oM Jm (by
   rw [show (yS u.zt i o).map Ol.v=u.zt.map Ol.v++[o.v] by unfold yS;rw [if_pos ge];simp];exact Oa.zA (T:=[(0,50,0)]) (zb.vP u8 m1 rfl rfl) rfl) u8.at_ ((u8.other h2.next O_).trans m3)
  refine ⟨_,h',pre _ h' ?_,j2,j3⟩;apply xz;refine zx K_ ?_;refine zl k1 K_ (w:=qL) rfl ?_;refine zl k2 K_ (w:=o.v) rfl ?_;refine ze a6 ?_;refine ze e7 ?_;refine zx K_ ?_;refine ze a8 ?_;exact z7.of j1
 ·rw [decide_eq_false ge] at pre;have il:i<(u.zt.map Ol.v).length:=by rw [List.length_map];omega
  rcases V7 with ⟨_,e0⟩ | ⟨rr,r1,r2,rfl,r3⟩
  ·rw [e0] at il;exact absurd il S_
  ·obtain ⟨h6,a6,u6⟩:=zM (p:=[i]) r3 (show my Pg (.row 60) [i] 60=true from K_) (v7 (List.getElem?_eq_getElem il)) (qh o) (WO il);have n6:=u6.next;obtain ⟨h',j1,j2,j3⟩:=fin h6 _ (dm.ya u6 r1) (by
    rw [show (yS u.zt i o).map Ol.v=(u.zt.map Ol.v).set i o.v by unfold yS;rw [if_neg ge,List.map_set]];exact .inr ⟨rr,r1,O_,by rw [List.length_set],u6.at_⟩) ((u6.other _ (uQ k1 r3 (by simp [AO.tag]))).trans k1) ((u6.other _ (uQ k3 r3 (by simp [AO.tag]))).trans k3)
   refine ⟨_,h',pre _ h' ?_,j2,j3⟩;apply yZ;refine zx K_ ?_;refine zl k1 K_ (w:=.y8 (some (⟨rr,.row 60,[]⟩,0)) (u.zt.map Ol.v).length) rfl ?_;refine zl k2 K_ (w:=o.v) rfl ?_;refine z6 (xW _ K_ O_ O_) ?_;rw [show 0+((i:Nat):Int).toNat=i by omega];refine ze a6 ?_;exact z7.of j1
def qs (a b:List UInt8):Nat->Nat->Nat->Nat
 | 0,_,e=>e
 | f+1,k,e=>if k<64/\k<e+3 then qs a b f (k+1) (if a.getD k 0=b.getD k 0 then e else k+1) else e
def z0J (a b:List UInt8):Nat->Nat->List UInt8
 | 0,_=>[]
 | f+1,i=>if i<64 then
  (if a.getD i 0=b.getD i 0 then z0J a b f (i+1)
  else (UInt8.ofNat i :: UInt8.ofNat (qs a b 64 (i+1) (i+1)-i) :: (b.drop i).take (qs a b 64 (i+1) (i+1)-i))++z0J a b f (qs a b 64 (i+1) (i+1)))
  else []
def xC (a b:List UInt8):List UInt8:=z0J a b 65 0
theorem iW (a b:List UInt8):∀ (f k e:Nat),e<=k->k<=64->e<=qs a b f k e/\qs a b f k e<=64
 | 0,k,e,h1,h2=>⟨Nat.le_refl _,by show e<=64;omega⟩
 | f+1,k,e,h1,h2=>by
  unfold qs;split
  ·rename_i g;split
   ·have:=iW a b f (k+1) e O_ O_;omega
   ·have:=iW a b f (k+1) (k+1) O_ O_;omega
  ·omega
section
variable {h:AH} {n1 n2:Nat} {a b:List UInt8}
abbrev K0 (n:Nat):V:=.ptr (some ⟨n,.one 73,[]⟩)
theorem Su {Q:yO->AH->Prop} {M:Nat} {x5:V} {i:Nat} (ha:a.length=64) (hb:b.length=64) (f1:h.m n1=some (lw a)) (f2:h.m n2=some (lw b)) :
 ∀ (f m k e:Nat),64-k<=f->f<m->k<=64->e<=k->(zbG Q M (K0 n1) (K0 n2) x5 (.int .i64 (i:Nat)) (.int .i64 (qs a b f k e:Nat)) h) ->
  Iy Q M m (K0 n1) (K0 n2) x5 (.int .i64 (i:Nat)) (.int .i64 (e:Nat)) (.int .i64 (k:Nat)) h
 | f,0,k,e,hf,hm,_,_,_=>by omega
 | 0,m+1,k,e,hf,hm,hk,he,c=>by
  rw [RB];refine yD O_ ?_;apply jo;refine sm (IE ..) ?_;apply yi;refine sm (Cn ..) ?_;apply yZ;exact z7.of c
 | f+1,m+1,k,e,hf,hm,hk,he,c=>by
  rw [RB];by_cases g:k<64/\k<e+3
  ·obtain ⟨g1,g2⟩:=g;have ia1:zy Pg 73 (K0 n1) (.int .i64 (k:Nat))=some (.ptr (some ⟨n1,.one 73,[]++[((k:Nat):Int).toNat]⟩)):=pF 64 5 K_ O_ O_;have ia2:zy Pg 73 (K0 n2) (.int .i64 (k:Nat))=some (.ptr (some ⟨n2,.one 73,[]++[((k:Nat):Int).toNat]⟩)):=pF 64 5 K_ O_ O_;have ga:=mJ (l:=a) (i:=k) O_;have gb:=mJ (l:=b) (i:=k) O_;have ec:qs a b (f+1) k e=qs a b f (k+1) (if a.getD k 0=b.getD k 0 then e else k+1):=by show (if _ then _ else _)=_;rw [if_pos ⟨g1,g2⟩]
   rw [ec] at c;by_cases q:a.getD k 0=b.getD k 0
   ·rw [if_pos q] at c;rw [<- q] at gb;refine xH O_ ?_;apply sE;refine zE O_ O_ ?_;refine xH O_ ?_;refine sm (IE ..) ?_;apply wc;refine sm (Cn ..) ?_;apply xz;refine sm (Fz ..) ?_;refine zg ia1 ?_;refine zY f1 K_ ga ?_;refine zg ia2 ?_;refine zY f2 K_ gb ?_;refine Mx O_ ?_;apply yZ;refine sm (Ej ..) ?_;refine zE O_ O_ ?_;rw [show (k:Int)+1=((k+1:Nat):Int) by omega];exact z7.of (Su ha hb f1 f2 f m (k+1) e O_ O_ O_ O_ c)
   ·rw [if_neg q] at c;have q':((a.getD k 0).toNat:Int)≠((b.getD k 0).toNat:Int):=λe'=>q (UInt8.toNat_inj.1 O_);obtain ⟨A,hA⟩:∃ A,((a.getD k 0).toNat:Int)=A:=⟨_,rfl⟩
    obtain ⟨B,hB⟩:∃ B,((b.getD k 0).toNat:Int)=B:=⟨_,rfl⟩
    rw [hA] at ga q';rw [hB] at gb q';refine xH O_ ?_;apply sE;refine zE O_ O_ ?_;refine xH O_ ?_;refine sm (IE ..) ?_;apply wc;refine sm (Cn ..) ?_;apply xz;refine sm (Fz ..) ?_;refine zg ia1 ?_;refine zY f1 K_ ga ?_;refine zg ia2 ?_;refine zY f2 K_ gb ?_;refine L5 O_ ?_;apply xz;refine zE O_ O_ ?_;refine sm (Ej ..) ?_;refine zE O_ O_ ?_;rw [show (k:Int)+1=((k+1:Nat):Int) by omega];exact z7.of (Su ha hb f1 f2 f m (k+1) (k+1) O_ O_ O_ O_ c)
  ·have ec:qs a b (f+1) k e=e:=by show (if _ then _ else _)=_;rw [if_neg g]
   rw [ec] at c;by_cases g1:k<64
   ·have g2:¬ k<e+3:=λq=>g ⟨g1,q⟩;refine xH O_ ?_;apply sE;refine zE O_ O_ ?_;refine yD O_ ?_;refine sm (IE ..) ?_;apply wc;refine sm (Cn ..) ?_;apply yZ;exact z7.of c
   ·refine yD O_ ?_;apply jo;refine sm (IE ..) ?_;apply yi;refine sm (Cn ..) ?_;apply yZ;exact z7.of c
end
section
variable {h0:AH} {n1 n2:Nat} {a b:List UInt8}
theorem by8:Pg.bytesOf 5<=1000:=E_
theorem Mk (ha:a.length=64) (hb:b.length=64):∀ (f m i:Nat) (h:AH) (acc:List UInt8) (sv:V),65-i<=f->f<=m->i<=64->1<=f->1<=m->acc.length<=1000*i->zb [] h0 h->j0 5 h0 h sv (zd acc)->h.m n1=some (lw a)->h.m n2=some (lw b)->n1<h.next->n2<h.next ->
 GY (vC (.str (acc++z0J a b f i)) h0) m (K0 n1) (K0 n2) sv (.int .i64 (i:Nat)) h
 | f,0,i,h,acc,sv,hf,hm,_,_,h1,_,_,_,_,_,_,_=>by omega
 | 0,m+1,i,h,acc,sv,hf,hm,_,h1,_,_,_,_,_,_,_,_=>by omega
 | f+1,m+1,i,h,acc,sv,hf,hm,hi,_,_,hac,q,dh,f1,f2,l1,l2=>by
  rw [Bi];by_cases g:i<64
  ·refine xH O_ ?_;apply xz;refine sm (RQ ..) ?_;have ia1:zy Pg 73 (K0 n1) (.int .i64 (i:Nat))=some (.ptr (some ⟨n1,.one 73,[]++[((i:Nat):Int).toNat]⟩)):=pF 64 5 K_ O_ O_;have ia2:zy Pg 73 (K0 n2) (.int .i64 (i:Nat))=some (.ptr (some ⟨n2,.one 73,[]++[((i:Nat):Int).toNat]⟩)):=pF 64 5 K_ O_ O_;have ga:=mJ (l:=a) (i:=i) O_;have gb:=mJ (l:=b) (i:=i) O_;refine zg ia1 ?_;refine zY f1 K_ ga ?_;refine zg ia2 ?_;refine zY f2 K_ gb ?_;by_cases e:a.getD i 0=b.getD i 0
   ·have ed:z0J a b (f+1) i=z0J a b f (i+1):=by show (if _ then (if _ then _ else _) else _)=_;rw [if_pos g,if_pos e]
    rw [ed];refine U3 (by rw [e]) ?_;apply xz;refine zE O_ O_ ?_;rw [show (i:Int)+1=((i+1:Nat):Int) by omega];exact z7.of (Mk ha hb f m (i+1) h acc sv O_ O_ O_ O_ O_ O_ q dh f1 f2 l1 l2)
   ·have e':((a.getD i 0).toNat:Int)≠((b.getD i 0).toNat:Int):=λe'=>e (UInt8.toNat_inj.1 O_);obtain ⟨d1,d2⟩:=iW a b 64 (i+1) (i+1) (Nat.le_refl _) O_;have ed:z0J a b (f+1) i=(UInt8.ofNat i :: UInt8.ofNat (qs a b 64 (i+1) (i+1)-i) :: (b.drop i).take (qs a b 64 (i+1) (i+1)-i))++z0J a b f (qs a b 64 (i+1) (i+1)):=by
     show (if _ then (if _ then _ else _) else _)=_;rw [if_pos g,if_neg e]
    rw [ed];refine U4 e' ?_;apply yZ;refine sm (HZ ..) ?_;refine zE O_ O_ ?_;rw [show (i:Int)+1=((i+1:Nat):Int) by omega];refine ⟨65,z7.of (Su ha hb f1 f2 64 65 (i+1) (i+1) O_ O_ O_ (Nat.le_refl _) ?_)⟩;generalize qs a b 64 (i+1) (i+1)=E at *;rw [CL];refine Zg E_ O_ O_ ?_;refine bT O_ O_ ?_;rw [show (E:Int)-(i:Int)=((E-i:Nat):Int) by omega];refine Zg E_ O_ O_ ?_;refine zq (K3 (e:=5) K_ (show xk Pg 5=some (.int .u8 0) from K_) K_ K_) λh1 u1=>?_;have m1:=u1.next;have q1:zb [] h h1:=zb.new u1;have JS:=dh.zA q1 rfl;have lit:([.int .u8 ((i:Nat):Int),.int .u8 ((E-i:Nat):Int)]:List V)=zd [UInt8.ofNat i,UInt8.ofNat (E-i)]:=by
     show _=[V.int .u8 ((UInt8.ofNat i).toNat:Nat),V.int .u8 ((UInt8.ofNat (E-i)).toNat:Nat)]
     rw [UInt8.toNat_ofNat_of_lt' (by simp [UInt8.size];omega),UInt8.toNat_ofNat_of_lt' (by simp [UInt8.size];omega)]
    have el1:=wV (P:=Pg) u1.at_;obtain ⟨v1,h2,e2,rw2,q2,qq2⟩:=JS.app (t:=154) (xt:=154) (by have:=q.next;omega) K_ (by exact el1) S_ (Nat.le_trans (Nat.mul_le_mul (show _<=1000000 by rw [yV];simp;omega) by8) D_);have m2:=q2.next;refine ze e2 ?_;have f21:=q1.at f2 l2 rfl;have f22:=q2.at f21 O_ rfl;have f12:=q2.at (q1.at f1 l1 rfl) O_ rfl;have sl:∀ {h:AH},h.m n2=some (lw b)->yC Pg h 73 (K0 n2) (some (.int .i64 (i:Nat))) (some (.int .i64 (E:Nat)))=some (.y8 (some (⟨n2,.one 73,[]⟩,i)) (E-i)):=λhm =>
     eX (n:=64) hm K_ (a:=i) (b:=E) (by rw [tU O_,show ((i:Nat):Int).toNat=i by omega]) (by rw [tU O_,show ((E:Nat):Int).toNat=E by omega]) O_ O_
    refine zg (sl f22) ?_;refine And.intro (pA (sl f2)) ?_;refine And.intro (pA (sl f21)) ?_;have elb:=elB (a:=i) (k:=E-i) f22 K_ O_;have bl:((b.drop i).take (E-i)).length=E-i:=by rw [List.length_take,List.length_drop];omega
    obtain ⟨v2,h3,e3,Xc,q3,qq3⟩:=rw2.app (t:=154) (xt:=154) (by have:=q.next;omega) K_ elb (by intro z;have:=congrArg List.length z;rw [yV,bl] at this;simp at this;omega) (Nat.le_trans (Nat.mul_le_mul (show _<=1000000 by rw [List.length_append,yV,yV,bl];simp;omega) by8) D_);have m3:=q3.next;refine ze e3 ?_;have acc2:(zd acc++[.int .u8 ((i:Nat):Int),.int .u8 ((E-i:Nat):Int)])++zd ((b.drop i).take (E-i))=zd (acc++(UInt8.ofNat i :: UInt8.ofNat (E-i) :: (b.drop i).take (E-i))):=by
     rw [lit];simp [zd]
    rw [acc2] at Xc;have:=Mk ha hb f m E h3 (acc++(UInt8.ofNat i :: UInt8.ofNat (E-i) :: (b.drop i).take (E-i))) v2 O_ O_ d2 O_ O_ (by simp only [List.length_append,List.length_cons,bl];omega) (qq3 _ (qq2 _ (q.trans q1))) Xc (q3.at f12 O_ rfl) (q3.at f22 O_ rfl) O_ O_;rw [List.append_assoc] at this;exact z7.of this
  ·have ed:z0J a b (f+1) i=[]:=by show (if _ then (if _ then _ else _) else _)=_;rw [if_neg g]
   rw [ed,List.append_nil];refine yD O_ ?_;apply yZ;refine sm (Cg ..) ?_;refine z6 (z4c (e:=5) K_ dh.jg.elems (by
    obtain ⟨aa,ea⟩:=dh.jg.shape;rw [ea];cases aa with
    | none=>exact .inl ⟨_,rfl⟩
    | some z=>exact .inr ⟨_,_,rfl⟩)) ?_
   exact ⟨rfl,q.all⟩
theorem QC (ha:a.length=64) (hb:b.length=64) (h:AH):z0q 73 [.agg (zd a),.agg (zd b)] h (zO (.str (xC a b)) h):=by
 refine yN rfl ?_;show z0q 73 _ h (vC _ h);refine C73 _ _ _ _ ?_;refine zq (yl (vO ha)) λh1 u1=>?_;have m1:=u1.next;have q1:zb [] h h1:=zb.new u1;refine zq (yl (vO hb)) λh2 u2=>?_;have m2:=u2.next;have q2:zb [] h1 h2:=zb.new u2;refine ⟨65,z7.of ?_⟩;have:=Mk (h0:=h) (n1:=h.next) (n2:=h1.next) ha hb 65 65 0 h2 [] (.y8 none 0) O_ O_ O_ O_ O_ S_ (q1.trans q2) (.inl ⟨rfl,rfl⟩) (q2.at u1.at_ O_ rfl) u2.at_ O_ O_;exact this
end
theorem cj (a b:List UInt8):∀ (f k e:Nat),64-k<=f->e<=k->(∀ j,e<=j->j<k->a.getD j 0=b.getD j 0)->∀ j,qs a b f k e<=j->j<qs a b f k e+3->j<64->a.getD j 0=b.getD j 0
 | 0,k,e,hf,he,h,j,h1,h2,h3=>h j h1 O_
 | f+1,k,e,hf,he,h,j,h1,h2,h3=>by
  unfold qs at h1 h2;by_cases g:k<64/\k<e+3
  ·rw [if_pos g] at h1 h2;by_cases q:a.getD k 0=b.getD k 0
   ·rw [if_pos q] at h1 h2;refine cj a b f (k+1) e O_ O_ (λj' g1 g2=>?_) j h1 h2 h3;by_cases e2:j'=k
    ·rw [e2];exact q
    ·exact h j' g1 O_
   ·rw [if_neg q] at h1 h2;exact cj a b f (k+1) (k+1) O_ O_ (λj' g1 g2=>by omega) j h1 h2 h3
  ·rw [if_neg g] at h1 h2;exact h j h1 O_
theorem mI (a b:List UInt8) (f:Nat) {i:Nat} (h:64<=i):z0J a b f i=[]:=by
 cases f with
 | zero=>rfl
 | succ f=>unfold z0J;rw [if_neg O_]
theorem io {a b:List UInt8} (hb:b.length=64):∀ (f i:Nat),i<=64->(z0J a b f i).length<=66-i/\((∀ j,i<=j->j<i+3->j<64->a.getD j 0=b.getD j 0)->(z0J a b f i).length+i<=63\/z0J a b f i=[])
 | 0,i,hi=>⟨by show 0<=_;omega,λ_=>.inr rfl⟩
 | f+1,i,hi=>by
  by_cases g:i<64
  ·by_cases e:a.getD i 0=b.getD i 0
   ·have ed:z0J a b (f+1) i=z0J a b f (i+1):=by show (if _ then (if _ then _ else _) else _)=_;rw [if_pos g,if_pos e]
    rw [ed];have h1:=(io (a:=a) hb f (i+1) O_).1;refine ⟨O_,λhj=>?_⟩;cases f with
    | zero=>exact .inr rfl
    | succ f =>
     by_cases g1:i+1<64
     ·have e1:=hj (i+1) O_ O_ g1;have ed1:z0J a b (f+1) (i+1)=z0J a b f (i+1+1):=by show (if _ then (if _ then _ else _) else _)=_;rw [if_pos g1,if_pos e1]
      rw [ed1];cases f with
      | zero=>exact .inr rfl
      | succ f =>
       by_cases g2:i+1+1<64
       ·have e2:=hj (i+1+1) O_ O_ g2;have ed2:z0J a b (f+1) (i+1+1)=z0J a b f (i+1+1+1):=by show (if _ then (if _ then _ else _) else _)=_;rw [if_pos g2,if_pos e2]
        rw [ed2];have:=(io (a:=a) hb f (i+1+1+1) O_).1;exact .inl O_
       ·exact .inr (mI a b _ O_)
     ·exact .inr (mI a b _ O_)
   ·obtain ⟨d1,d2⟩:=iW a b 64 (i+1) (i+1) (Nat.le_refl _) O_;have dq:=cj a b 64 (i+1) (i+1) O_ (Nat.le_refl _) (λj g1 g2=>by omega);have ed:z0J a b (f+1) i=(UInt8.ofNat i :: UInt8.ofNat (qs a b 64 (i+1) (i+1)-i) :: (b.drop i).take (qs a b 64 (i+1) (i+1)-i))++z0J a b f (qs a b 64 (i+1) (i+1)):=by
     show (if _ then (if _ then _ else _) else _)=_;rw [if_pos g,if_neg e]
    rw [ed];generalize qs a b 64 (i+1) (i+1)=E at *;have h2:=(io (a:=a) hb f E d2).2 dq;have bl:((b.drop i).take (E-i)).length=E-i:=by rw [List.length_take,List.length_drop];omega
    refine ⟨?_,λhj=>absurd (hj i (Nat.le_refl _) O_ g) e⟩;simp only [List.length_append,List.length_cons,bl];rcases h2 with h2 | h2
    ·omega
    ·rw [h2];simp;omega
  ·exact ⟨by rw [mI a b _ O_];simp,λ_=>.inr (mI a b _ O_)⟩
theorem rR {a b:List UInt8} (hb:b.length=64):(xC a b).length<=66:=(io (a:=a) hb 65 0 O_).1
theorem aR {a b d:List UInt8} (ha:a.length=64) (hb:b.length=64):∀ (f i F next p:Nat) (cur:List UInt8),65-i<=f->1<=f->i<=64->d.length-p<F->d.drop p=z0J a b f i->p<=d.length->cur.length=64->(∀ k,k<i->cur.getD k 0=b.getD k 0)->(∀ k,i<=k->cur.getD k 0=a.getD k 0)->(next<=i\/(next=i+1/\(64<=i\/a.getD i 0=b.getD i 0))) ->
 PS d F next p cur=(true,b)
 | 0,i,F,next,p,cur,hf,h1,_,_,_,_,_,_,_,_=>by omega
 | f+1,i,F,next,p,cur,hf,h1,hi,hF,hd,hp,hc,c1,c2,hn=>by
  have dl:d.length-p=(z0J a b (f+1) i).length:=by rw [<- hd,List.length_drop]
  by_cases g:i<64
  ·by_cases e:a.getD i 0=b.getD i 0
   ·have ed:z0J a b (f+1) i=z0J a b f (i+1):=by show (if _ then (if _ then _ else _) else _)=_;rw [if_pos g,if_pos e]
    rw [ed] at hd;refine aR ha hb f (i+1) F next p cur O_ O_ O_ hF hd hp hc (λk hk=>?_) (λk hk=>c2 k O_) (.inl O_);by_cases ek:k=i
    ·subst ek;rw [c2 k (Nat.le_refl _)];exact e
    ·exact c1 k O_
   ·have qA:next<=i:=by
     rcases hn with q | ⟨q1,q2⟩
     ·exact q
     ·rcases q2 with q2 | q2
      ·omega
      ·exact absurd q2 e
    obtain ⟨d1,d2⟩:=iW a b 64 (i+1) (i+1) (Nat.le_refl _) O_;have dq:=cj a b 64 (i+1) (i+1) O_ (Nat.le_refl _) (λj g1 g2=>by omega);have ed:z0J a b (f+1) i=(UInt8.ofNat i :: UInt8.ofNat (qs a b 64 (i+1) (i+1)-i) :: (b.drop i).take (qs a b 64 (i+1) (i+1)-i))++z0J a b f (qs a b 64 (i+1) (i+1)):=by
     show (if _ then (if _ then _ else _) else _)=_;rw [if_pos g,if_neg e]
    rw [ed] at hd dl;generalize qs a b 64 (i+1) (i+1)=E at *;have bl:((b.drop i).take (E-i)).length=E-i:=by rw [List.length_take,List.length_drop];omega
    simp only [List.length_append,List.length_cons,bl] at dl;have g0:d.getD p 0=UInt8.ofNat i:=by
     have:=te (s:=d) (a:=p) (i:=0);rw [hd] at this;exact this.symm
    have g1:d.getD (p+1) 0=UInt8.ofNat (E-i):=by
     have:=te (s:=d) (a:=p) (i:=1);rw [hd] at this;exact this.symm
    have t0:(d.getD p 0).toNat=i:=by rw [g0,UInt8.toNat_ofNat_of_lt' (by simp [UInt8.size];omega)]
    have t1:(d.getD (p+1) 0).toNat=E-i:=by rw [g1,UInt8.toNat_ofNat_of_lt' (by simp [UInt8.size];omega)]
    have dp2:d.drop (p+2)=(b.drop i).take (E-i)++z0J a b f E:=by rw [<- List.drop_drop,hd];rfl
    have tk:(d.drop (p+2)).take (E-i)=(b.drop i).take (E-i):=by rw [dp2,List.take_left' bl]
    have dpn:d.drop (p+(2+(E-i)))=z0J a b f E:=by
     rw [<- Nat.add_assoc,<- List.drop_drop,dp2,List.drop_left' bl]
    cases F with
    | zero=>omega
    | succ F =>
     unfold PS;rw [if_neg O_,if_neg O_,t0,t1,if_neg O_,tk,show i+(E-i)+1=E+1 by omega];have hcp:∀ k,(wS cur i (64-i) ((b.drop i).take (E-i))).getD k 0=if i<=k/\k<E then b.getD k 0 else cur.getD k 0:=by
      intro k;rw [dT O_,bl,Nat.min_eq_left O_,show i+(E-i)=E by omega];split
      ·rename_i gk;rw [List.getD_eq_getElem?_getD,List.getElem?_take_of_lt O_,List.getElem?_drop,show i+(k-i)=k by omega,<- List.getD_eq_getElem?_getD]
      ·rfl
     refine aR ha hb f E F (E+1) (p+(2+(E-i))) _ O_ O_ d2 O_ dpn O_ (by rw [rP O_];exact hc) (λk hk=>?_) (λk hk=>?_) (.inr ⟨rfl,?_⟩)
     ·rw [hcp];by_cases gk:i<=k
      ·rw [if_pos ⟨gk,hk⟩]
      ·rw [if_neg O_];exact c1 k O_
     ·rw [hcp,if_neg O_];exact c2 k O_
     ·by_cases g6:64<=E
      ·exact .inl g6
      ·exact .inr (dq E (Nat.le_refl _) O_ O_)
  ·rw [mI a b _ O_] at dl;have dl:d.length-p=0:=dl;cases F with
   | zero=>omega
   | succ F =>
    unfold PS;rw [if_pos O_];congr 1;refine MX (by rw [hc,hb]) λk hk=>?_;exact c1 k O_
theorem ay {a b:List UInt8} (ha:a.length=64) (hb:b.length=64):wD a (xC a b)=(true,b):=by
 unfold wD;exact aR ha hb 65 0 _ 0 0 a O_ O_ O_ O_ (by rw [List.drop_zero];rfl) O_ ha (λk hk=>by omega) (λk hk=>rfl) (.inl (Nat.le_refl _))
def o9 (u:Un) (no:Nat) (v:Dt):Dt × Int:=match w5 u.zt v.ps.toNat with
 | none=>(Dt.z,2)
 | some o=>if o.xu≠no\/v.ts<=o.ts then (Dt.z,2) else if (wD v.body o.dl).1=true then (⟨0,o.ts,o.np,o.ns,(wD v.body o.dl).2⟩,0) else (Dt.z,2)
section
variable {h0:AH} {n1 n5 n6 n11:Nat}
theorem gL {h:AH} {w:V} {d:Dt} {e:Int} {T:xr} {Q:yO->AH->Prop} (q:zb T h0 h) (l4:h0.next<=n6) (f4:h.m n6=some (.cells true (.one 163) w)) (hx:zf Pg d.v 163=true)
 (k:∀ h',zb T h0 h'->zb [(0,163,0)] h h'->Q (.ret (.yX [d.v,.int .i64 e])) h') :
 z0 (zh Pg h 163 (.ptr (some ⟨n6,.one 163,[]⟩)) d.v) λ_ h1=>yq (zX Pg [(6,.ptr (some ⟨n6,.one 163,[]⟩)),(7,.int .i64 e)] h1 TU) λv=>Q (.ret v) h1:=by
 refine zq (zM (p:=[]) f4 K_ rfl hx rfl) λh2 u2=>?_;have e1:=zR (P:=Pg) (t:=163) (p:=[]) u2.at_ K_ (w:=d.v) rfl;simp only [z9] at e1;have e2:=(zK e1).1;refine yr (show zX Pg _ _ TU=some [d.v,.int .i64 e] by simp [TU,zX,zJ.get,e2]) ?_;exact k h2 (q.ya u2 l4) (zb.vP u2 f4 rfl rfl)
theorem MD {h:AH} {T:xr} {R:AH->Prop} {w w6:V} {u:Un} {v:Dt} {no:Nat} (vk:no<65536) (vo:v.ok) (q:zb T h0 h) (b:sZ h w u) (l6:h0.next<=n6) (o5:n5<h.next) (o6:n6<h.next)
 (f5:h.m n5=some (.cells true (.one 163) v.v)) (f6:h.m n6=some (.cells true (.one 163) w6)) (f11:h.m n11=some (.cells true (.one 50) w)) (kR:∀ h',zb [(0,163,0)] h h'->R h') :
 z68 (xj T h0 (Er (o9 u no v)) R) (.int .u16 no) (.ptr (some ⟨n5,.one 163,[]⟩)) (.ptr (some ⟨n6,.one 163,[]⟩)) (.ptr (some ⟨n11,.one 50,[]⟩)) h:=by
 obtain ⟨v1,v2,v3,v4⟩:=vo;have bz:zD Pg 163 []=some Dt.z.v:=K_;have lps:=UInt8.toNat_lt v.ps;rw [EG];refine zl f11 K_ (w:=w) rfl ?_;refine zx K_ ?_;refine zx K_ ?_;refine zl f5 K_ (w:=.int .u8 v.ps.toNat) rfl ?_;refine yf (Sf b O_) ?_;have bad:∀ h',zb [] h h'->h'.m n6=some (.cells true (.one 163) w6)->o9 u no v=(Dt.z,2) ->
  z0 (zh Pg h' 163 (.ptr (some ⟨n6,.one 163,[]⟩)) Dt.z.v) λ_ h1=>yq (zX Pg [(6,.ptr (some ⟨n6,.one 163,[]⟩)),(7,.int .i64 2)] h1 TU) λx=>xj T h0 (Er (o9 u no v)) R (.ret x) h1:=by
  intro h' qq g6 e;rw [e];exact gL (q.trans (qq.sub rfl)) l6 g6 (tL kW) λh2 q2 q3=>⟨rfl,q2,kR h2 ((qq.sub rfl).trans q3)⟩
 cases hs:w5 u.zt v.ps.toNat with
 | none =>
  have e:o9 u no v=(Dt.z,2):=by unfold o9;rw [hs]
  apply wj;apply wl;refine zq (yA Mw (qh _)) λh1 u1=>?_;have q1:zb [] h h1:=zb.new u1;refine zq (zM (p:=[]) u1.at_ K_ rfl (qh Ol.z) rfl) λh2 u2=>?_;have q2:zb [] h h2:=q1.ya u2 (Nat.le_refl _);apply tv;apply tA;refine sm (G4 ..) ?_;apply wc;apply tA;refine sm (C2 ..) ?_;apply wc;refine sm (CF ..) ?_;apply xz;refine z6 bz ?_;exact bad h2 q2 (q2.at f6 o6 rfl) e
 | some o =>
  have oo:o.ok:=by
   unfold w5 at hs;cases hg:u.zt[v.ps.toNat]? with
   | none=>rw [hg] at hs;cases hs
   | some o' =>
    rw [hg] at hs;simp only at hs;split at hs
    ·cases hs;exact b.ok.zt _ (List.mem_of_getElem? hg)
    ·cases hs
  obtain ⟨o1,o2,o3,o4⟩:=oo;have ed:o9 u no v=if o.xu≠no\/v.ts<=o.ts then (Dt.z,2) else if (wD v.body o.dl).1=true then (⟨0,o.ts,o.np,o.ns,(wD v.body o.dl).2⟩,0) else (Dt.z,2):=by unfold o9;rw [hs]
  apply wj;apply wl;refine zq (yA Mw (qh _)) λh1 u1=>?_;have n1:=u1.next;have q1:zb [] h h1:=zb.new u1;refine zq (zM (p:=[]) u1.at_ K_ rfl (qh o) rfl) λh2 u2=>?_;have n2:=u2.next;have q2:zb [] h h2:=q1.ya u2 (Nat.le_refl _);have g5:=q2.at f5 o5 rfl;have g6:=q2.at f6 o6 rfl;have g12:=u2.at_;have gp:yF o.v ([]++[1])=some (.int .u16 o.xu):=rfl;have gt:yF o.v ([]++[2])=some (.int .u32 o.ts):=rfl;have gn:yF o.v ([]++[3])=some (.agg [.int .u16 o.np,.int .u8 o.ns.toNat]):=rfl;have gd:yF o.v ([]++[4])=some (.str o.dl):=rfl;have vt:yF v.v ([]++[1])=some (.int .u32 v.ts):=rfl;have vb:yF v.v ([]++[3])=some (.agg (zd v.body)):=rfl;by_cases c1:o.xu=no
  ·by_cases c2:v.ts<=o.ts
   ·apply wq;apply xc;refine zx K_ ?_;refine zl g12 K_ gp ?_;refine yx O_ ?_;refine sm (G4 ..) ?_;apply yi;apply xc;refine zx K_ ?_;refine zl g12 K_ gt ?_;refine zx K_ ?_;refine zl g5 K_ vt ?_;refine rj O_ ?_;refine sm (C2 ..) ?_;apply yi;refine sm (CF ..) ?_;apply xz;refine z6 bz ?_;exact bad h2 q2 g6 (by rw [ed,if_pos (.inr c2)])
   ·apply wq;apply xc;refine zx K_ ?_;refine zl g12 K_ gp ?_;refine yx O_ ?_;refine sm (G4 ..) ?_;apply yi;apply xc;refine zx K_ ?_;refine zl g12 K_ gt ?_;refine zx K_ ?_;refine zl g5 K_ vt ?_;refine qm O_ ?_;refine sm (C2 ..) ?_;apply yi;refine sm (CF ..) ?_;apply yZ;refine sm (GD ..) ?_;refine zx K_ ?_;refine zl g5 K_ vb ?_;refine zx K_ ?_;refine zl g12 K_ gd ?_;refine yf (M8 v4 o4 h2) ?_;have hlen:=oA o.dl (o.dl.length+1) 0 0 v.body v4;rw [show (PS o.dl (o.dl.length+1) 0 0 v.body).2=(wD v.body o.dl).2 from rfl] at hlen;by_cases c3:(wD v.body o.dl).1=true
    ·rw [UL c3];apply wj;apply wl;refine zq (yA YT (vO (zI 64))) λh3 u3=>?_;have n3:=u3.next;refine zq (zM (p:=[]) u3.at_ K_ rfl (vO hlen) rfl) λh4 u4=>?_;have n4:=u4.next;have q4:zb [] h2 h4:=(zb.new u3).ya u4 (Nat.le_refl _);have m12:=q4.at g12 O_ rfl;have m6:=q4.at g6 (by have:=q2.next;omega) rfl;have m14:=u4.at_;rw [ed,if_neg O_,if_pos c3];have bD:zD Pg 163 [(1,.int .u32 o.ts),(2,.agg [.int .u16 o.np,.int .u8 o.ns.toNat]),(3,.agg (zd (wD v.body o.dl).2))]=some (⟨0,o.ts,o.np,o.ns,(wD v.body o.dl).2⟩:Dt).v:=by
      have hsb:=vO hlen;refine uR [47,56,58,73] (show xk Pg 163=some Dt.z.v from PD) K_ ?_;have s1:zf Pg (.int .u32 o.ts) 56=true:=K_;have s2:zf Pg (.agg [.int .u16 o.np,.int .u8 o.ns.toNat]) 58=true:=K_;simp [xK,s1,s2,hsb,Dt.v,Dt.z]
     refine yx O_ ?_;apply yZ;refine sm (G3 ..) ?_;refine zx K_ ?_;refine zl m12 K_ gt ?_;refine zx K_ ?_;refine zl m12 K_ gn ?_;refine zl m14 K_ (w:=.agg (zd (wD v.body o.dl).2)) rfl ?_;refine z6 bD ?_;exact gL (q.trans ((q2.trans q4).sub rfl)) l6 m6 (tL ⟨by show (0:Nat)<_;omega,o2,o3,hlen⟩) λh5 q5 q6=>⟨rfl,q5,kR h5 (((q2.trans q4).sub rfl).trans q6)⟩
    ·have c3':=Bool.eq_false_iff.2 c3;rw [VZ c3'];apply wj;apply wl;refine zq (yA YT (vO (zI 64))) λh3 u3=>?_;refine zq (zM (p:=[]) u3.at_ K_ rfl (vO (zI 64)) rfl) λh4 u4=>?_;have q4:zb [] h2 h4:=(zb.new u3).ya u4 (Nat.le_refl _);refine xe O_ ?_;apply xz;refine z6 bz ?_;exact bad h4 (q2.trans q4) (q4.at g6 (by have:=q2.next;omega) rfl) (by rw [ed,if_neg O_,if_neg c3])
  ·apply wq;apply xc;refine zx K_ ?_;refine zl g12 K_ gp ?_;refine xe O_ ?_;refine sm (G4 ..) ?_;apply yi;apply tA;refine sm (C2 ..) ?_;apply wc;refine sm (CF ..) ?_;apply xz;refine z6 bz ?_;exact bad h2 q2 g6 (by rw [ed,if_pos (.inl c1)])
end
def Ca.xE (c:Ca) (no:Nat) (v:Dt):(Dt × Int) × Ca :=
 if v.pp=0 then ((Dt.z,1),c)
 else if (c.yh (true,v.pp-1)).1.2=1 then ((Dt.z,2),(c.yh (true,v.pp-1)).2)
 else if (c.yh (true,v.pp-1)).1.2≠0 then ((Dt.z,(c.yh (true,v.pp-1)).1.2),(c.yh (true,v.pp-1)).2)
 else (match ua (v.pp-1) (c.yh (true,v.pp-1)).1.1 with | none=>(Dt.z,2) | some u=>o9 u no v,(c.yh (true,v.pp-1)).2.xm (true,v.pp-1))
section
variable {h:AH} {p:Nat} {n:ZD} {c:Ca}
theorem L8 (k:gF h p n c) (own:vx h) {no:Nat} (vk:no<65536) {v:Dt} (vo:v.ok) (b:c.dR):z0q 77 [j4 p,.int .u16 no,v.v] h (xj Yx h (Er (c.xE no v).1) λh'=>gF h' p n (c.xE no v).2):=by
 obtain ⟨lv,kb⟩:=k;have okc:=kb.ok;have okh:=kb.ck.ok.hand;have vpp:=vo.pp;have bz:zD Pg 163 []=some Dt.z.v:=K_;have gpp:yF v.v (([]++[2])++[0])=some (.int .u16 v.pp):=rfl;refine C77 _ _ _ _ _ ?_;refine zq (yl (tL vo)) λh1 u1=>?_;have n1:=u1.next;have q1:zb [] h h1:=zb.new u1;refine zq (yA PD (tL kW)) λh2 u2=>?_;have n2:=u2.next;have q2:zb [] h1 h2:=zb.new u2;have po:=q1.trans q2;have f5:=q2.at u1.at_ O_ rfl;have f6:=u2.at_;refine zx K_ ?_;refine zx K_ ?_;refine zl f5 K_ gpp ?_;by_cases g0:v.pp=0
 ·rw [show c.xE no v=((Dt.z,1),c) by unfold Ca.xE;rw [if_pos g0]];refine xn O_ ?_;apply xz;refine z6 bz ?_;refine gL (po.sub (T':=Yx) rfl) O_ f6 (tL kW) λh3 q3 q23=>?_;exact ⟨rfl,q3,⟨lv,(kb.zA po rfl).zA q23 rfl⟩⟩
 refine yB O_ ?_;apply yZ;refine sm (cG ..) ?_;refine zx K_ ?_;refine zx K_ ?_;refine zl f5 K_ gpp ?_;refine z6 (j8 (jq O_ O_)) ?_;rw [show (v.pp:Int)-1=((v.pp-1:Nat):Int) by omega];have hi:v.pp-1<65536:=O_;have es:c.xE no v=if (c.yh (true,v.pp-1)).1.2=1 then ((Dt.z,2),(c.yh (true,v.pp-1)).2)
  else if (c.yh (true,v.pp-1)).1.2≠0 then ((Dt.z,(c.yh (true,v.pp-1)).1.2),(c.yh (true,v.pp-1)).2)
  else (match ua (v.pp-1) (c.yh (true,v.pp-1)).1.1 with | none=>(Dt.z,2) | some u=>o9 u no v,(c.yh (true,v.pp-1)).2.xm (true,v.pp-1)):=by unfold Ca.xE;rw [if_neg g0]
 rw [es];generalize v.pp-1=un at *;refine z6 (show zD Pg 43 [(0,.bool true),(1,.int .u16 un)]=some (pV (true,un)) from K_) ?_;refine zq (yA (show xk Pg 43=some (pV (false,0)) from K_) (fJ _)) λh3 u3=>?_;have n3:=u3.next;have q3:zb [] h2 h3:=zb.new u3;refine zq (zM (p:=[]) u3.at_ K_ rfl (fJ (true,un)) rfl) λh4 u4=>?_;have n4:=u4.next;have JR:zb [] h2 h4:=q3.ya u4 (Nat.le_refl _);have mE:=po.trans JR;have f54:=JR.at f5 O_ rfl;have f64:=JR.at f6 O_ rfl;have f84:=u4.at_;refine zl f84 K_ (w:=pV (true,un)) rfl ?_;refine xN (Xm (i:=(true,un)) (rt:=qr (true,un)) (bl:=W6 (true,un)) (kb.zA mE rfl) (mE.own own) hi b (λx h hx=>WA hx hi h) (λh=>WR hi h) (tO _)) λh5 q5 k5=>?_;have n5:=q5.next;have Jp:=mN (rt:=qr (true,un)) (bl:=W6 (true,un)) (i:=(true,un)) okc okh;have gB:=Yf (rt:=qr (true,un)) (bl:=W6 (true,un)) (i:=(true,un)) k5.ok;have J3:=oJ (qr (true,un)) (W6 (true,un)) c (true,un);unfold Ca.yh;generalize c.wA (qr (true,un)) (W6 (true,un)) (true,un)=ft at *;obtain ⟨⟨x,e⟩,c2⟩:=ft;simp only at Jp gB J3 k5 ⊢;refine z6 (show zm (ZY (x,e)) 0=some (.agg (zd x)) from rfl) ?_;refine z6 (show zm (ZY (x,e)) 1=some (.int .i64 e) from rfl) ?_;refine zq (yA na (xf (zI 224))) λh6 u6=>?_;have n6:=u6.next;have hx:x.length=224:=by
  by_cases e0:e=0
  ·exact gB (Jp e0)
  ·exact J3 e0
 refine zq (zM (p:=[]) u6.at_ K_ rfl (xf hx) rfl) λh7 u7=>?_;have n7:=u7.next;have q57:zb [] h5 h7:=(zb.new u6).ya u7 (Nat.le_refl _);have q47:zb Yx h4 h7:=q5.trans (q57.sub rfl);have f57:=q57.at (q5.at f54 O_ rfl) O_ rfl;have f67:=q57.at (q5.at f64 O_ rfl) O_ rfl;have f87:=q57.at (q5.at f84 O_ rfl) O_ rfl;have f97:=u7.at_;have k7:=k5.zA q57 rfl;have Va:zb Yx h h7:=(mE.sub rfl).trans q47;by_cases e1:e=1
 ·rw [if_pos e1];refine xn e1 ?_;apply xz;refine z6 bz ?_;refine gL Va O_ f67 (tL kW) λh8 q8 A9=>?_;exact ⟨rfl,q8,k7.zA A9 rfl⟩
 rw [if_neg e1];refine yB e1 ?_;apply yZ;refine sm (Cz ..) ?_;by_cases e0:e=0
 case neg =>
  rw [if_pos e0];refine xe e0 ?_;apply xz;refine z6 bz ?_;refine gL Va O_ f67 (tL kW) λh8 q8 A9=>?_;exact ⟨rfl,q8,k7.zA A9 rfl⟩
 subst e0;rw [if_neg S_];refine yx rfl ?_;apply yZ;refine sm (EW ..) ?_;refine zl f87 K_ (w:=pV (true,un)) rfl ?_;obtain ⟨lv7,kb7⟩:=k7;obtain ⟨j,y1,y2,y3,y4⟩:=Jp rfl;refine xN (Pp kb7 (true,un) y1 y3) λh8 q8 k8=>?_;have n8:=q8.next;have f88:=q8.at f87 O_ rfl;have f58:=q8.at f57 O_ rfl;have f68:=q8.at f67 O_ rfl;have f98:=q8.at f97 O_ rfl;have Jm:zb Yx h h8:=Va.trans (q8.sub rfl);have eu:c2.xm (true,un)={ c2 with ck:={ c2.ck with pins:=c2.ck.pins.set j (c2.ck.pins.getD j 0-1) } }:=by unfold Ca.xm;rw [y1]
 rw [eu];have w2:yF (pV (true,un)) ([]++[1])=some (.int .u16 un):=rfl;refine zx K_ ?_;refine zl f88 K_ w2 ?_;refine zl f98 K_ (w:=.agg (zd x)) rfl ?_;refine YP (RL hx hi) λw h9 q9 b9=>?_;have n9:=q9.next;generalize ua un x=gu at *;apply wj;apply wl;refine zq (yA UK uE) λh10 Tk=>?_;have n10:=Tk.next;refine zq (zM (p:=[]) Tk.at_ K_ rfl b9.sh rfl) λJT Oe=>?_;have n11:=Oe.next;have T6:zb [] h9 JT:=(zb.new Tk).ya Oe (Nat.le_refl _);have Aa:=q9.trans T6;have f511:=Aa.at f58 O_ rfl;have zdJ:=Aa.at f68 O_ rfl;have Vb:zb Yx h JT:=Jm.trans (Aa.sub rfl);have JL:=k8.zA Aa rfl;cases gu with
 | none =>
  rw [show (ZC none).2=2 from rfl];refine xe O_ ?_;apply xz;refine z6 bz ?_;refine gL Vb O_ zdJ (tL kW) λNH cL zdK=>?_;exact ⟨rfl,cL,⟨lv7,JL.zA zdK rfl⟩⟩
 | some u =>
  rw [show (ZC (some u)).2=0 from rfl];refine yx O_ ?_;apply yZ;exact z7.of (MD vk vo Vb (b9.zA T6 rfl) O_ O_ O_ f511 zdJ Oe.at_ λNH cL=>⟨lv7,JL.zA cL rfl⟩)
end
def Ol.of (no:Nat) (d:Dt) (dl:List UInt8):Ol:=⟨true,no,d.ts,d.pp,d.ps,dl⟩
def tH (u at_:Nat) (o:Ol):Rc:={ Rc.z 3 with zU:=true,no:=u,sl:=at_,live:=o.live,op:=o.xu,du:=o.ts,dv:=o.np,Xa:=o.ns.toNat,od:=o.dl }
def vF (no ts pp:Nat) (ps:UInt8) (dl:List UInt8):Rc:={ Rc.z 2 with no:=no,ts:=ts,pp:=pp,ps:=ps.toNat,dl:=dl }
theorem RX {u at_:Nat} {o:Ol} (h1:u<65536) (h2:at_<256) (ho:o.ok):(tH u at_ o).ok:=by
 obtain ⟨o1,o2,o3,o4⟩:=ho;have:=UInt8.toNat_lt o.ns;refine ⟨by simp [tH,Rc.z,wT.Jo],λx hx=>?_,by simp [tH,Rc.z],⟨by show (0:Int)<=(u:Int);omega,by show (u:Int)<65536;omega⟩,by simp [tH,Rc.z],by simp [tH,Rc.z],by simp [tH,Rc.z],by simp [tH,Rc.z],⟨by show (0:Int)<=(at_:Int);omega,by show (at_:Int)<256;omega⟩,⟨by show (0:Int)<=(o.xu:Int);omega,by show (o.xu:Int)<65536;omega⟩,⟨by show (0:Int)<=(o.ts:Int);omega,by show (o.ts:Int)<4294967296;omega⟩,⟨by show (0:Int)<=(o.np:Int);omega,by show (o.np:Int)<65536;omega⟩,⟨by show (0:Int)<=(o.ns.toNat:Int);omega,by show (o.ns.toNat:Int)<256;omega⟩,by show o.dl.length<_;omega⟩;simp only [tH,Rc.z,wT.Jo,List.mem_replicate] at hx;omega
theorem WG {no ts pp:Nat} {ps:UInt8} {dl:List UInt8} (h1:no<65536) (h2:ts<4294967296) (h3:pp<65536) (h4:dl.length<1000000):(vF no ts pp ps dl).ok:=by
 have:=UInt8.toNat_lt ps;refine ⟨by simp [vF,Rc.z,wT.Jo],λx hx=>?_,by simp [vF,Rc.z],⟨by show (0:Int)<=(no:Int);omega,by show (no:Int)<65536;omega⟩,⟨by show (0:Int)<=(ts:Int);omega,by show (ts:Int)<4294967296;omega⟩,⟨by show (0:Int)<=(pp:Int);omega,by show (pp:Int)<65536;omega⟩,⟨by show (0:Int)<=(ps.toNat:Int);omega,by show (ps.toNat:Int)<256;omega⟩,by show dl.length<_;omega,by simp [vF,Rc.z],by simp [vF,Rc.z],by simp [vF,Rc.z],by simp [vF,Rc.z],by simp [vF,Rc.z],by simp [vF,Rc.z]⟩;simp only [vF,Rc.z,wT.Jo,List.mem_replicate] at hx;omega
theorem LT {u at_:Nat} {o:Ol} (hl:o.live=true) (h:o.dl.length<=66):(tH u at_ o).may=true:=by
 have e:(tH u at_ o).bare=tH u at_ o:=by
  unfold tH;rw [hl];rfl
 unfold Rc.may;rw [e];simp [tH,Rc.z,wT.Jo,h]
theorem Ms {no ts pp:Nat} {ps:UInt8} {dl:List UInt8} (h:dl.length<=66):(vF no ts pp ps dl).may=true:=by
 have e:(vF no ts pp ps dl).bare=vF no ts pp ps dl:=rfl;unfold Rc.may;rw [e];simp [vF,Rc.z,wT.Jo,h]
theorem Ow (no:Nat) (sl:UInt8):(vg no sl).may=true:=by
 have e:(vg no sl).bare=vg no sl:=rfl;unfold Rc.may;rw [e];simp [vg,Rc.z,wT.Jo]
theorem Hm (u at_:Nat) (o:Ol):zD Pg 95 [(0,.int .u8 3),(1,pV (true,u)),(6,.int .u8 at_),(7,o.v)]=some (tH u at_ o).v:=by
 have h1:=fJ (true,u);have h2:=qh o;refine uR [5,43,33,56,58,9,5,60] SQ K_ ?_;have h3:zf Pg (.int .u8 3) 5=true:=K_;have h4:zf Pg (.int .u8 at_) 5=true:=K_;simp [xK,h1,h2,h3,h4,wT.rz,Rc.z,Rc.v,uV,uD,uL,tH,Ol.v];exact ⟨h2,rfl⟩
theorem QV (no ts pp:Nat) (ps:UInt8) (dl:List UInt8):zD Pg 95 [(0,.int .u8 2),(1,pV (false,no)),(3,.int .u32 ts),(4,kU pp ps),(5,.str dl)]=some (vF no ts pp ps dl).v:=by
 have h1:=fJ (false,no);refine uR [5,43,33,56,58,9,5,60] SQ K_ ?_;have h3:zf Pg (.int .u8 2) 5=true:=K_;have h4:zf Pg (.int .u32 ts) 56=true:=K_;have h5:zf Pg (kU pp ps) 58=true:=K_;have h6:zf Pg (.str dl) 9=true:=K_;simp [xK,h1,h3,h4,h5,h6,wT.rz,Rc.z,Rc.v,uV,uD,uL,vF,kU];exact ⟨h5,rfl⟩
def Ca.z55 (c:Ca) (ro:Ro) (no ts:Nat) (body:List UInt8) (d:Dt) (u at_:Nat):Int × Ca × Ro :=
 if (c.yy ro (vF no ts (u+1) (UInt8.ofNat at_) (xC d.body body))).1=0 then c.yy ro (vF no ts (u+1) (UInt8.ofNat at_) (xC d.body body))
 else ((c.yy ro (vF no ts (u+1) (UInt8.ofNat at_) (xC d.body body))).1,((c.yy ro (vF no ts (u+1) (UInt8.ofNat at_) (xC d.body body))).2.1.pR (c.yy ro (vF no ts (u+1) (UInt8.ofNat at_) (xC d.body body))).2.2 (u+1) (UInt8.ofNat at_)).2)
def Ca.z56 (c:Ca) (ro:Ro) (no ts:Nat) (body:List UInt8) (d:Dt) (u at_:Nat):Int × Ca × Ro :=
 if (c.yy ro (tH u at_ (Ol.of no d (xC body d.body)))).1=0 then (c.yy ro (tH u at_ (Ol.of no d (xC body d.body)))).2.1.z55 (c.yy ro (tH u at_ (Ol.of no d (xC body d.body)))).2.2 no ts body d u at_
 else c.yy ro (tH u at_ (Ol.of no d (xC body d.body)))
def Ro.spot (ro:Ro) (u n:Nat):Nat:=(xv (ro.xu u).zt n).getD 0
def Ca.z57 (c:Ca) (ro:Ro) (no ts:Nat) (body:List UInt8) (d:Dt):Int × Ca × Ro :=
 if (ro.find (xC body d.body).length).1.2=true then c.z56 (ro.find (xC body d.body).length).2 no ts body d (ro.find (xC body d.body).length).1.1 ((ro.find (xC body d.body).length).2.spot (ro.find (xC body d.body).length).1.1 (xC body d.body).length)
 else (5,c,(ro.find (xC body d.body).length).2)
def Ca.wd (c:Ca) (ro:Ro) (no ts:Nat) (body:List UInt8):Int × Ca × Ro :=
 if (c.yg no).1.2=0 then
  (if ts<=(c.yg no).1.1.ts then (1,(c.yg no).2,ro) else (c.yg no).2.z57 ro no ts body (c.yg no).1.1)
 else ((c.yg no).1.2,(c.yg no).2,ro)
def Ca.z58 (c:Ca) (ro:Ro) (no:Nat) (d v:Dt):Int × Ca × Ro :=
 if (c.yy ro (vF no v.ts v.pp v.ps (xC d.body v.body))).1=0 then (0,((c.yy ro (vF no v.ts v.pp v.ps (xC d.body v.body))).2.1.pR (c.yy ro (vF no v.ts v.pp v.ps (xC d.body v.body))).2.2 d.pp d.ps).2)
 else c.yy ro (vF no v.ts v.pp v.ps (xC d.body v.body))
def Ca.z59 (c:Ca) (ro:Ro) (no:Nat) (d:Dt):Int × Ca × Ro :=
 if (c.xE no d).1.2=0 then (c.xE no d).2.z58 ro no d (c.xE no d).1.1 else ((c.xE no d).1.2,(c.xE no d).2,ro)
def Ca.lM (c:Ca) (ro:Ro) (no:Nat):Int × Ca × Ro :=
 if (c.yg no).1.2=0 then (c.yg no).2.z59 ro no (c.yg no).1.1 else ((c.yg no).1.2,(c.yg no).2,ro)
section
variable {h:AH} {p r:Nat} {n:cp} {f:ZO} {c:Ca} {ro:Ro}
theorem TD (k:BsA h p n f c):z0q 20 [fD p] h (zO (OY n.pr) h):=by
 refine C20 _ _ _ ?_;refine z6 (N1 p) ?_;apply yZ;refine sm (Dp ..) ?_;apply yb;refine zx K_ ?_;refine zl k.base K_ rfl ?_;exact ⟨rfl,rfl⟩
end
def Ca.deep:Nat->Ca->Prop
 | 0,_=>True
 | m+1,c=>c.room/\(∀ ro (r:Rc),r.ok->(c.yy ro r).2.1.deep m)/\(∀ no,no<65536->(c.yg no).2.deep m/\(c.yg no).1.1.ok)/\(∀ no (v:Dt),v.ok->(c.xE no v).2.deep m/\(c.xE no v).1.1.ok)
theorem z4g (no:Nat) (d:Dt) (dl:List UInt8):zD Pg 60 [(0,.bool true),(1,.int .u16 no),(2,.int .u32 d.ts),(3,kU d.pp d.ps),(4,.str dl)]=some (Ol.of no d dl).v:=K_
abbrev C1:xr:=(0,161,0) :: Lh
theorem X0 {ro:Ro} {n:Nat} (h:(ro.find n).1.2=true):uO n ((ro.find n).2.xu (ro.find n).1.1)=true/\((ro.find n).1.1<ro.us.length\/(ro.find n).1.1=ro.last)/\(ro.find n).2.us=ro.us:=by
 unfold Ro.find at h ⊢;by_cases g:uO n (ro.xu ro.last)=true
 ·rw [if_pos g];exact ⟨g,.inr rfl,rfl⟩
 ·rw [if_neg g] at h ⊢;cases hf:ro.us.findIdx? (uO n) with
  | none=>rw [hf] at h;cases h
  | some i =>
   obtain ⟨hi,h1,_⟩:=List.findIdx?_eq_some_iff_getElem.1 hf;refine ⟨?_,.inl hi,rfl⟩;show uO n ((ro.us[i]?).getD Un.z)=true;rw [List.getElem?_eq_getElem hi];exact h1
theorem OB {ro:Ro} {n:Nat} (h:(ro.find n).1.2=false):(ro.find n).2=ro/\∀ u∈ro.us,uO n u=false:=by
 unfold Ro.find at h ⊢;by_cases g:uO n (ro.xu ro.last)=true
 ·rw [if_pos g] at h;cases h
 ·rw [if_neg g] at h ⊢;cases hf:ro.us.findIdx? (uO n) with
  | none=>exact ⟨rfl,λu hu=>by simpa using List.findIdx?_eq_none_iff.1 hf u hu⟩
  | some i=>rw [hf] at h;cases h
section
variable {h:AH} {p r:Nat} {n:cp} {f:ZO} {c:Ca} {ro:Ro}
abbrev InQ (h0:AH) (p r:Nat) (n:cp) (f:ZO) (y:Int × Ca × Ro):yO->AH->Prop:=xj C1 h0 (.int .i64 y.1) λh'=>BsA h' p n f y.2.1/\jy h' n.pr r y.2.2
theorem cR {no ts:Nat} {body:List UInt8} (k:BsA h p n f c) (kr:jy h n.pr r ro) (own:vx h) (vk:no<65536) (gy:ts<4294967296) (hb:body.length=64) (dp:c.deep 4) :
 z0q 28 [fD p,.int .u16 no,.int .u32 ts,.agg (zd body)] h (InQ h p r n f (c.wd ro no ts body)):=by
 have shb:=vO hb;obtain ⟨d1,d2,d3,d4⟩:=dp;obtain ⟨d5,kN⟩:=d3 no vk;refine C28 _ _ _ _ _ _ ?_;refine zq (yl shb) λh1 u1=>?_;have n1:=u1.next;have q1:zb [] h h1:=zb.new u1;have f1:=u1.at_;have k1:=k.zA q1 rfl;have kr1:=kr.zA q1 rfl;refine yf (jY k1) ?_;refine xN (cD k1.ca (q1.own own) vk d1.dR) λh2 q2 Vi=>?_;have k2:=k1.pQ q2 rfl Vi;have kr2:=kr1.zA q2 rfl;have Y5:=q2.own (q1.own own);have po:zb C1 h h2:=(q1.sub rfl).trans (q2.sub rfl);have f1:=q2.at f1 O_ rfl;have n2:=q2.next;unfold Ca.wd;generalize hnw:c.yg no=nw at *;obtain ⟨⟨d,e⟩,c2⟩:=nw;have shd:=tL kN;simp only at d5 kN Vi k2 shd ⊢;apply wj;apply wl;refine zq (yA PD (tL kW)) λh3 u3=>?_;have n3:=u3.next;have q3:zb [] h2 h3:=zb.new u3;refine zq (zM (p:=[]) u3.at_ K_ rfl shd rfl) λh4 u4=>?_;have n4:=u4.next;have q4:zb [] h2 h4:=q3.ya u4 O_;have f9:=u4.at_;have k4:=k2.zA q4 rfl;have JV:=kr2.zA q4 rfl;have NL:=q4.own Y5;have mE:zb C1 h h4:=po.trans (q4.sub rfl);have f1:=q4.at f1 O_ rfl;by_cases he:e=0
 case neg =>
  rw [if_neg he];refine xe he ?_;apply xz;exact ⟨rfl,mE,k4,JV⟩
 rw [if_pos he];refine yx he ?_;apply yZ;have l9:h2.next<h4.next:=O_;have l1:h.next<h4.next:=by have:=u1.next;omega
 have o1:=kN.ts;have g1:yF d.v ([]++[1])=some (.int .u32 d.ts):=rfl;have g2:yF d.v ([]++[2])=some (kU d.pp d.ps):=rfl;have g3:yF d.v ([]++[3])=some (.agg (zd d.body)):=rfl;refine sm (Pi ..) ?_;refine zx K_ ?_;refine zl f9 K_ g1 ?_;by_cases ht:ts<=d.ts
 ·rw [if_pos ht];refine lu O_ ?_;apply xz;exact ⟨rfl,mE,k4,JV⟩
 rw [if_neg ht];refine bY O_ ?_;apply yZ;refine sm (Bd ..) ?_;refine ym K_ ?_;refine zY f9 K_ g1 ?_;refine ym K_ ?_;refine zY f9 K_ g2 ?_;refine zY f1 K_ (w:=.agg (zd body)) rfl ?_;refine ym K_ ?_;refine zY f9 K_ g3 ?_;refine ⟨_,QC hb kN.body h4,?_⟩;have zdM:=rR (a:=body) kN.body;generalize NY:xC body d.body=dl at *;have Ac:(Ol.of no d dl).ok:=⟨vk,o1,kN.pp,by show dl.length<_;omega⟩
 refine zg (z4g no d dl) ?_;refine zq (yA Mw (qh Ol.z)) λh5 u5=>?_;have n5:=u5.next;have q5:zb [] h4 h5:=zb.new u5;have f1:=q5.at f1 O_ rfl;have f9:=q5.at f9 O_ rfl;refine ⟨by rw [<- NY];exact QC hb kN.body h5,?_⟩;refine ox f9 K_ g3 ?_;refine ox f1 K_ rfl ?_;refine ox f9 K_ g2 ?_;refine ox f9 K_ g1 ?_;refine zq (zM (p:=[]) u5.at_ K_ rfl (qh (Ol.of no d dl)) rfl) λh6 u6=>?_;have n6:=u6.next;have q6:zb [] h4 h6:=q5.ya u6 O_;have f11:=u6.at_;have f1:h6.m h.next=some (.cells true (.one 73) (.agg (zd body))):=(u6.other _ O_).trans f1;have f9:h6.m h2.next=some (.cells true (.one 163) d.v):=(u6.other _ O_).trans f9;have k6:=k4.zA q6 rfl;have kr6:=JV.zA q6 rfl;have own6:=q6.own NL;have Tj:zb C1 h h6:=mE.trans (q6.sub rfl);have g4:yF (Ol.of no d dl).v ([]++[4])=some (.str dl):=rfl;refine ⟨_,TD k6,?_⟩;refine ym K_ ?_;refine zY f11 K_ g4 ?_;refine wM (v:=.int .i64 dl.length) W_ ?_;refine xN (z1j kr6 (n:=dl.length) O_) λh7 q7 JU=>?_;have n7:=q7.next;have k7:=k6.zA q7 rfl;have Js:=q7.own own6;have Va:zb C1 h h7:=Tj.trans (q7.sub rfl);have f1:=q7.at f1 O_ rfl;have f9:=q7.at f9 O_ rfl;have f11:=q7.at f11 O_ rfl;unfold Ca.z57;rw [NY];have BE:(ro.find dl.length).1.2=true->uO dl.length ((ro.find dl.length).2.xu (ro.find dl.length).1.1)=true/\(ro.find dl.length).1.1<32:=λe=>by
  obtain ⟨w1,w2,w3⟩:=X0 e;have:=kr6.n;have:=kr6.last;exact ⟨w1,O_⟩
 generalize hfd:ro.find dl.length=fd at *;obtain ⟨⟨u,ok⟩,Xf⟩:=fd;simp only at BE JU ⊢;refine wM (v:=.int .i64 u) rfl ?_;refine wM (v:=.bool ok) rfl ?_;cases ok with
 | false =>
  apply tv;apply xz;exact ⟨rfl,Va,k7,JU⟩
 | true =>
  apply wq;apply yZ;obtain ⟨hft,hu⟩:=BE rfl;rw [if_pos rfl];refine sm (EI ..) ?_;refine ⟨_,TD k7,?_⟩;obtain ⟨w,h8,a8,q8,ub8⟩:=Ir JU u O_;refine ⟨w,h8,a8,?_⟩;have n8:=q8.next;have f11':=q8.at f11 O_ rfl;refine zY f11' K_ (w:=(Ol.of no d dl).v) rfl ?_;refine ox f11 K_ (w:=(Ol.of no d dl).v) rfl ?_;obtain ⟨at_,NK⟩:∃ i,xv (Xf.xu u).zt dl.length=some i:=Option.isSome_iff_exists.1 hft;obtain ⟨w2,h9,a9,q9,ub9⟩:=addE ub8 Ac rfl NK;refine ⟨_,h9,a9,?_⟩;have n9:=q9.next;have pl:=wz NK;have q79:zb [] h7 h9:=q8.trans q9;have own9:=q79.own Js;refine wM (v:=w2) rfl ?_;refine wM (v:=.int .u8 at_) rfl ?_;refine wM (v:=.int .i64 0) rfl ?_;refine WY UK uE rfl own9 ?_;have Tk:=vJ h9 (.cells true (.one 50) (vE 0 (.y8 none 0)));generalize h9.make (.cells true (.one 50) (vE 0 (.y8 none 0)))=h10 at Tk ⊢;have n10:=Tk.next;have A5:zb [] h7 h10:=q79.trans (zb.new Tk);refine zq (zM (p:=[]) Tk.at_ K_ rfl ub9.sh rfl) λJT Oe=>?_;have n11:=Oe.next;have q11:zb [] h7 JT:=A5.ya Oe O_;refine kh E_ O_ O_ ?_;refine z6 (show zD Pg 43 [(0,.bool true),(1,.int .u16 (u:Nat))]=some (pV (true,u)) from K_) ?_;refine zq (yA (show xk Pg 43=some (pV (false,0)) from K_) (fJ _)) λNH NM=>?_;have n12:=NM.next;have cL:zb [] h7 NH:=q11.trans (zb.new NM);refine zq (zM (p:=[]) NM.at_ K_ rfl (fJ (true,u)) rfl) λh13 u13=>?_;have n13:=u13.next;have NN:zb [] h7 h13:=cL.ya u13 O_;have f1:=NN.at f1 O_ rfl;have f9:=NN.at f9 O_ rfl;have f11:=NN.at f11 O_ rfl;have k13:=k7.zA NN rfl;have kr13:=JU.zA NN rfl;have z12:=NN.own Js;have q013:zb C1 h h13:=Va.trans (NN.sub rfl);refine zl u13.at_ K_ (w:=pV (true,u)) rfl ?_;refine zl f11 K_ (w:=(Ol.of no d dl).v) rfl ?_;refine z6 (Hm u at_ (Ol.of no d dl)) ?_;obtain ⟨e1,e2,e3,e4⟩:=d5;have hsp:Xf.spot u dl.length=at_:=by unfold Ro.spot;rw [NK];rfl
  rw [hsp];unfold Ca.z56;rw [NY];have zdP:(tH u at_ (Ol.of no d dl)).ok:=RX O_ O_ Ac;have dp14:=e2 Xf _ zdP;refine xN (iq k13 kr13 z12 zdP e1) λJQ q14 ⟨k14,zdR⟩=>?_;generalize hy:c2.yy Xf (tH u at_ (Ol.of no d dl))=y at *;have n14:=q14.next;have f1:=q14.at f1 O_ rfl;have f9:=q14.at f9 O_ rfl;have zdS:=q14.own z12;have zdT:zb C1 h JQ:=q013.trans (q14.sub rfl);by_cases JW:y.1=0
  case neg =>
   rw [if_neg JW];refine xe JW ?_;apply xz;exact ⟨rfl,zdT,k14,zdR⟩
  rw [if_pos JW];refine yx JW ?_;apply yZ;refine sm (DC ..) ?_;refine zE O_ O_ ?_;rw [show (u:Int)+1=((u+1:Nat):Int) by omega];refine kh E_ O_ O_ ?_;have ea:(UInt8.ofNat at_).toNat=at_:=UInt8.toNat_ofNat_of_lt' (by simp [UInt8.size];omega);have hrf:kU (u+1) (UInt8.ofNat at_)=.agg [.int .u16 ((u+1:Nat):Int),.int .u8 at_]:=by unfold kU;rw [ea]
  refine z6 (show zD Pg 58 [(0,.int .u16 ((u+1:Nat):Int)),(1,.int .u8 at_)]=some (kU (u+1) (UInt8.ofNat at_)) by rw [hrf];kernel_rfl) ?_;have shrf:zf Pg (kU (u+1) (UInt8.ofNat at_)) 58=true:=K_;refine zq (yA (show xk Pg 58=some (kU 0 0) from K_) K_) λh15 u15=>?_;have n15:=u15.next;have q15:zb [] JQ h15:=zb.new u15;refine zq (zM (p:=[]) u15.at_ K_ rfl shrf rfl) λh16 u16=>?_;have n16:=u16.next;have q16:zb [] JQ h16:=q15.ya u16 O_;have f18:=u16.at_;have f1:=q16.at f1 O_ rfl;have f9:=q16.at f9 O_ rfl;have k16:=k14.zA q16 rfl;have kr16:=zdR.zA q16 rfl;have z13:=q16.own zdS;have q016:zb C1 h h16:=zdT.trans (q16.sub rfl);refine wM (v:=pV (false,no)) W_ ?_;refine zY f18 K_ (w:=kU (u+1) (UInt8.ofNat at_)) rfl ?_;refine ym K_ ?_;refine zY f9 K_ g3 ?_;refine zY f1 K_ (w:=.agg (zd body)) rfl ?_;refine ⟨_,QC kN.body hb h16,?_⟩;have zdU:=rR (a:=d.body) hb;refine zg (QV no ts (u+1) (UInt8.ofNat at_) (xC d.body body)) ?_;have Jt:(vF no ts (u+1) (UInt8.ofNat at_) (xC d.body body)).ok:=WG vk gy O_ O_;obtain ⟨i1,i2,i3,i4⟩:=dp14;have z5a:=i2 y.2.2 _ Jt;unfold Ca.z55;refine xN (iq k16 kr16 z13 Jt i1) λh17 Ad ⟨k17,Ju⟩=>?_;generalize hz:y.2.1.yy y.2.2 (vF no ts (u+1) (UInt8.ofNat at_) (xC d.body body))=z at *;have n17:=Ad.next;have f18:=Ad.at f18 O_ rfl;have Jv:=Ad.own z13;have Jw:zb C1 h h17:=q016.trans (Ad.sub rfl);by_cases cN:z.1=0
  ·rw [if_pos cN];refine yx cN ?_;apply yZ;refine sm (B2 ..) ?_;exact ⟨rfl,Jw,k17,Ju⟩
  ·rw [if_neg cN];refine xe cN ?_;apply xz;refine zl f18 K_ (w:=kU (u+1) (UInt8.ofNat at_)) rfl ?_;refine xN (z06 k17 Ju Jv O_ (UInt8.ofNat at_) z5a.1) λh18 q18 ⟨k18,z5b⟩=>?_;refine sm (B2 ..) ?_;exact ⟨rfl,Jw.trans (q18.sub rfl),k18,z5b⟩
end
section
variable {h:AH} {p r:Nat} {n:cp} {f:ZO} {c:Ca} {ro:Ro}
theorem popP {no:Nat} (k:BsA h p n f c) (kr:jy h n.pr r ro) (own:vx h) (vk:no<65536) (dp:c.deep 4) :
 z0q 30 [fD p,.int .u16 no] h (ChQ h p r n f (c.lM ro no)):=by
 obtain ⟨d1,d2,d3,d4⟩:=dp;obtain ⟨d5,kN⟩:=d3 no vk;refine C30 _ _ _ _ ?_;refine yf (jY k) ?_;refine xN (cD k.ca own vk d1.dR) λh2 q2 Vi=>?_;have k2:=k.pQ q2 rfl Vi;have kr2:=kr.zA q2 rfl;have Y5:=q2.own own;have po:zb Lh h h2:=q2.sub rfl;have n2:=q2.next;unfold Ca.lM;generalize hnw:c.yg no=nw at *;obtain ⟨⟨d,e⟩,c2⟩:=nw;have shd:=tL kN;simp only at d5 kN Vi k2 shd ⊢;apply wj;apply wl;refine zq (yA PD (tL kW)) λh3 u3=>?_;have n3:=u3.next;have q3:zb [] h2 h3:=zb.new u3;refine zq (zM (p:=[]) u3.at_ K_ rfl shd rfl) λh4 u4=>?_;have n4:=u4.next;have q4:zb [] h2 h4:=q3.ya u4 O_;have f5:=u4.at_;have k4:=k2.zA q4 rfl;have JV:=kr2.zA q4 rfl;have NL:=q4.own Y5;have mE:zb Lh h h4:=po.trans (q4.sub rfl);by_cases he:e=0
 case neg =>
  rw [if_neg he];refine xe he ?_;apply xz;exact ⟨rfl,mE,k4,JV⟩
 rw [if_pos he];refine yx he ?_;apply yZ;refine sm (B0 ..) ?_;refine ⟨_,jY k4,?_⟩;refine zY f5 K_ (w:=d.v) rfl ?_;obtain ⟨e1,e2,e3,e4⟩:=d5;obtain ⟨e5,Tl⟩:=e4 no d kN;refine xN (L8 k4.ca NL vk kN e1.dR) λh5 q5 ca5=>?_;have k5:=k4.pQ q5 rfl ca5;have kr5:=JV.zA q5 rfl;have zdW:=q5.own NL;have dm:zb Lh h h5:=mE.trans (q5.sub rfl);have f5':=q5.at f5 O_ rfl;have n5:=q5.next;unfold Ca.z59;generalize pN:c2.xE no d=st at *;obtain ⟨⟨v,e'⟩,c5⟩:=st;have shv:=tL Tl;simp only at e5 Tl ca5 k5 shv ⊢;refine wM (v:=v.v) rfl ?_;refine wM (v:=.int .i64 e') rfl ?_;refine WY PD (tL kW) K_ zdW ?_;have u6:=vJ h5 (.cells true (.one 163) Dt.z.v);generalize h5.make (.cells true (.one 163) Dt.z.v)=h6 at u6 ⊢;have n6:=u6.next;have q6:zb [] h5 h6:=zb.new u6;refine zq (zM (p:=[]) u6.at_ K_ rfl shv rfl) λh7 u7=>?_;have n7:=u7.next;have q7:zb [] h5 h7:=q6.ya u7 O_;have f7:=u7.at_;have f5:=q7.at f5' O_ rfl;have k7:=k5.zA q7 rfl;have JU:=kr5.zA q7 rfl;have Js:=q7.own zdW;have Va:zb Lh h h7:=dm.trans (q7.sub rfl);by_cases hs:e'=0
 case neg =>
  rw [if_neg hs];refine xe hs ?_;apply xz;exact ⟨rfl,Va,k7,JU⟩
 rw [if_pos hs];refine yx hs ?_;apply yZ;refine sm (CE ..) ?_;have g1:yF v.v ([]++[1])=some (.int .u32 v.ts):=rfl;have g2:yF v.v ([]++[2])=some (kU v.pp v.ps):=rfl;have g3:yF v.v ([]++[3])=some (.agg (zd v.body)):=rfl;have g4:yF d.v ([]++[3])=some (.agg (zd d.body)):=rfl;have g5:yF d.v ([]++[2])=some (kU d.pp d.ps):=rfl;refine wM (v:=pV (false,no)) W_ ?_;refine ym K_ ?_;refine zY f7 K_ g1 ?_;refine ym K_ ?_;refine zY f7 K_ g2 ?_;refine ym K_ ?_;refine zY f5 K_ g4 ?_;refine ym K_ ?_;refine zY f7 K_ g3 ?_;refine ⟨_,QC kN.body Tl.body h7,?_⟩;have zdU:=rR (a:=d.body) Tl.body;refine zg (QV no v.ts v.pp v.ps (xC d.body v.body)) ?_;have Jt:(vF no v.ts v.pp v.ps (xC d.body v.body)).ok:=WG vk Tl.ts Tl.pp O_;obtain ⟨i1,i2,i3,i4⟩:=e5;have z5a:=i2 ro _ Jt;unfold Ca.z58;refine xN (iq k7 JU Js Jt i1) λh17 Ad ⟨k17,Ju⟩=>?_;generalize hz:c5.yy ro (vF no v.ts v.pp v.ps (xC d.body v.body))=z at *;have n17:=Ad.next;have f5:=Ad.at f5 O_ rfl;have Jv:=Ad.own Js;have Jw:zb Lh h h17:=Va.trans Ad;by_cases cN:z.1=0
 ·rw [if_pos cN];refine xn cN ?_;apply xz;refine zx K_ ?_;refine zl f5 K_ g5 ?_;refine xN (z06 k17 Ju Jv kN.pp d.ps z5a.1) λh18 q18 ⟨k18,z5b⟩=>?_;refine sm (Dc ..) ?_;exact ⟨by rw [cN],Jw.trans q18,k18,z5b⟩
 ·rw [if_neg cN];refine yB cN ?_;apply yZ;refine sm (Dc ..) ?_;exact ⟨rfl,Jw,k17,Ju⟩
end
theorem Dk.Ae (d:Dk) (b:Int):(d.read b).2.2.ops<=d.ops+1/\(d.read b).2.2.zT=d.zT:=by
 have o:=Dk.Zx d;have p:=Dk.kK d;unfold Dk.read;split
 ·exact ⟨by show d.ops<=_;omega,rfl⟩
 ·split
  ·exact ⟨by show d.ops<=_;omega,rfl⟩
  ·split
   ·exact ⟨by show d.op.2.ops<=_;omega,p⟩
   ·exact ⟨by show d.op.2.ops<=_;omega,p⟩
theorem Ca.Rv (c:Ca) (j:Nat):(c.xT j).2.dk.zT.length<=c.dk.zT.length+4*c.lg.zB.length+8:=by
 have hb:(c.wt j).2.2.zT.length<=c.dk.zT.length+4*c.lg.zB.length+4:=by
  unfold Ca.wt;split
  ·exact (Lg.jJ c.lg c.dk).2.2.2
  ·show c.dk.zT.length<=_;omega
 have h3:∀ (c:Ca) (d:Dk),(c.tJ j d).2.dk.zT.length<=d.zT.length+4:=by
  intro c d;obtain ⟨w1,w2,w3⟩:=Dk.lJ d (c.place (c.frame j).id) (wN (xB (c.frame j).p 7 8) (c.frame j).p);have e:c.wL j d=d.write (c.place (c.frame j).id) (wN (xB (c.frame j).p 7 8) (c.frame j).p):=rfl;rw [<- e] at w2;obtain ⟨s1,s2,s3⟩:=Dk.cM (c.wL j d).2;unfold Ca.tJ;split
  ·exact w2
  ·split
   ·show (c.wL j d).2.sync.2.zT.length<=_;omega
   ·show (c.wL j d).2.sync.2.zT.length<=_;omega
 unfold Ca.xT;split
 ·show (c.wt j).2.2.zT.length<=_;omega
 ·have:=h3 { c with lg:=(c.wt j).2.1 } (c.wt j).2.2;omega
theorem Ca.Af (rt:List UInt8->Bool) (bl:List UInt8) (c:Ca) (i:vd) (j:Nat):(c.load rt bl i j).2.dk.ops<=c.dk.ops+1/\(c.load rt bl i j).2.dk.zT=c.dk.zT:=by
 obtain ⟨r1,r2⟩:=c.dk.Ae (c.place i);unfold Ca.load;split
 ·show (c.tB j _ i _).dk.ops<=_/\(c.tB j _ i _).dk.zT=_;rw [(fe c j _ i _).2.2.2.2.1];exact ⟨r1,r2⟩
 ·exact ⟨r1,r2⟩
theorem Ca.Tb (rt:List UInt8->Bool) (bl:List UInt8) (c:Ca) (i:vd):(c.wA rt bl i).2.dk.ops<=c.dk.ops+c.lg.zB.length+6/\(c.wA rt bl i).2.dk.zT.length<=c.dk.zT.length+4*c.lg.zB.length+8:=by
 have ld:∀ (c':Ca) (j:Nat),(c'.load rt bl i j).2.dk.ops<=c'.dk.ops+1/\(c'.load rt bl i j).2.dk.zT.length=c'.dk.zT.length:=λc' j=>by
  obtain ⟨a1,a2⟩:=Ca.Af rt bl c' i j;exact ⟨a1,by rw [a2]⟩
 unfold Ca.wA;split
 ·split
  ·exact ⟨by show c.dk.ops<=_;omega,by show c.dk.zT.length<=_;omega⟩
  ·split
   ·obtain ⟨a1,a2⟩:=ld c c.fr.length;exact ⟨O_,O_⟩
   ·split
    ·exact ⟨by show c.dk.ops<=_;omega,by show c.dk.zT.length<=_;omega⟩
    ·rename_i j hv;obtain ⟨b1,b2,b3,b4,b5,b6,b7⟩:=Ca.mh { c with ck:=c.ck.yE.2 } j;have b8:=Ca.Rv { c with ck:=c.ck.yE.2 } j;have b7:(({ c with ck:=c.ck.yE.2 }:Ca).xT j).2.dk.ops<=c.dk.ops+c.lg.zB.length+5:=b7;have b8:(({ c with ck:=c.ck.yE.2 }:Ca).xT j).2.dk.zT.length<=c.dk.zT.length+4*c.lg.zB.length+8:=b8;split
     ·split
      ·exact ⟨by show (({ c with ck:=c.ck.yE.2 }:Ca).xT j).2.dk.ops<=_;omega,b8⟩
      ·obtain ⟨a1,a2⟩:=ld (({ c with ck:=c.ck.yE.2 }:Ca).xT j).2 j;exact ⟨O_,O_⟩
     ·obtain ⟨a1,a2⟩:=ld { c with ck:=c.ck.yE.2 } j;have a1:_<=c.dk.ops+1:=a1;have a2:_=c.dk.zT.length:=a2;exact ⟨O_,O_⟩
 ·exact ⟨by show c.dk.ops<=_;omega,by show c.dk.zT.length<=_;omega⟩
theorem nu (c:Ca) (i:vd):(c.xm i).dk=c.dk:=(eM c i).2.2.2.1
theorem KJ (i:vd) (x:List UInt8) (c:Ca) (ro:Ro):(uZ i x c ro).1.dk=c.dk:=by
 unfold uZ;split
 ·unfold Ca.vQ;split <;> rfl
 ·rfl
theorem Cx (c:Ca) (i:vd) (x:List UInt8):(c.oL i x).dk=c.dk:=by
 unfold Ca.oL;split <;> rfl
theorem Ca.NO (c:Ca) (ro:Ro) (r:Rc):(c.yy ro r).2.1=c\/(c.yy ro r).2.1.dk=(c.yh (r.zU,r.no.toNat)).2.dk:=by
 unfold Ca.yy;by_cases h:r.may=true/\r.k≠1/\r.k≠6
 ·rw [if_pos h]
  right
  split
  ·split
   ·exact nu _ _
   ·unfold Ca.kM;split
    ·show ((uZ _ _ _ _).1.xm _).dk=_;rw [nu,KJ,Cx]
    ·exact nu _ _
  ·rfl
 ·rw [if_neg h];exact .inl rfl
structure Ca.ub (k:Nat) (c:Ca):Prop where
 ops:c.dk.ops<=5000+5000*k
 zT:c.dk.zT.length<=20000+20000*k
 fin:c.lg.fin<=10+1000*k
theorem Ca.ub.mono {k k':Nat} {c:Ca} (u:c.ub k) (h:k<=k'):c.ub k':=by
 obtain ⟨a,b,d⟩:=u;exact ⟨O_,O_,O_⟩
theorem YJ {c:Ca} (s:Sv c):c.lg.zB.length<=2000:=by
 have:=s.lg.le;omega
theorem Ik {c:Ca} (s:Sv c) (r:c.rest) {k:Nat} (u:c.ub k) (hk:k<=40000):c.room:=by
 obtain ⟨u1,u2,u3⟩:=u;have h1:=s.lg.le;have h2:=s.lg.num;have h3:=s.lg.xJ;have h4:=s.lg.size;refine ⟨⟨⟨h4.1,O_,O_,O_,s.lg.chs,O_,O_⟩,O_,O_,λx hx=>by rw [r x hx];decide⟩,O_,O_,O_,h3⟩
theorem Ue {c:Ca} (s:Sv c) {k:Nat} {i:vd} (u:c.ub k) (a:c.as (c.yh i).2):(c.yh i).2.ub (k+1):=by
 obtain ⟨u1,u2,u3⟩:=u;have h:=YJ s;obtain ⟨f1,f2⟩:=Ca.Tb (qr i) (W6 i) c i;refine ⟨?_,?_,by rw [a.lg.fin];omega⟩
 ·show (c.wA (qr i) (W6 i) i).2.dk.ops<=_;omega
 ·show (c.wA (qr i) (W6 i) i).2.dk.zT.length<=_;omega
theorem oY {c:Ca} (s:Sv c) {k:Nat} (u:c.ub k) (ro:Ro) {r:Rc} (hf:(c.yy ro r).2.1.lg.fin<=c.lg.fin+406):(c.yy ro r).2.1.ub (k+1):=by
 obtain ⟨u1,u2,u3⟩:=u;have h:=YJ s;obtain ⟨f1,f2⟩:=Ca.Tb (qr (r.zU,r.no.toNat)) (W6 (r.zU,r.no.toNat)) c (r.zU,r.no.toNat);rcases Ca.NO c ro r with e | e
 ·rw [e] at hf ⊢;exact ⟨O_,O_,O_⟩
 ·refine ⟨?_,?_,O_⟩
  ·rw [e];show (c.wA (qr _) (W6 _) _).2.dk.ops<=_;omega
  ·rw [e];show (c.wA (qr _) (W6 _) _).2.dk.zT.length<=_;omega
theorem m0 {c:Ca} (s:Sv c) (i:vd):(c.pg i).length=224:=by
 cases hk:xI c.at_ i with
 | some j =>
  rw [vW hk];exact (s.ok.fr _ (lx (s.ok.lt hk))).p
 | none =>
  rw [uy hk];exact lZ (nj s.seen _) (tO i)
theorem Zc {c:Ca} (s:Sv c) {i:vd} (hi:i.2<65536):qr i (c.pg i)=true:=by
 cases hk:xI c.at_ i with
 | some j =>
  rw [vW hk];have:=s.right _ (lx (s.ok.lt hk));rw [Po s.ok hk] at this;exact this
 | none =>
  rw [uy hk];exact Qx hi _
theorem qZ {c:Ca} (s:Sv c) (r:c.rest) {no:Nat} (vk:no<c.zH) :
 Sv (c.yg no).2/\c.as (c.yg no).2/\(c.yg no).2.rest/\c.dk.uh (c.yg no).1.2/\((c.yg no).1.2=0->(c.yg no).1.1=rq (c.pg (false,no)))/\(c.yg no).1.1.ok:=by
 have Oc:=s.ok.zH;have hi:c.tC (false,no):=by unfold Ca.tC;rw [if_neg S_];exact vk
 obtain ⟨f1,f2,f3,f4,f5⟩:=lh s r hi (by show no<_;omega);have hr:ur no (c.pg (false,no)):=by
  have:=Zc s (i:=(false,no)) (by show no<_;omega);unfold qr at this;rw [if_neg S_] at this;exact of_decide_eq_true this
 unfold Ca.yg;by_cases h:(c.yh (false,no)).1.2=0
 ·obtain ⟨e1,e2⟩:=f5 h;obtain ⟨u1,u2,u3⟩:=ng f1 e2;rw [if_pos h,e1,if_pos hr];exact ⟨u1,f2.trans u2,u3,Dk.oD _,λ_=>rfl,rZ (m0 s _)⟩
 ·rw [if_neg h];exact ⟨f1,f2,f4 h,f3,λe=>absurd e h,kW⟩
theorem iT {c:Ca} (s:Sv c) (r:c.rest) {no q:Nat} {v:Dt} (hv:v.pp=q+1) (hq:q<c.zU) :
 Sv (c.xE no v).2/\c.as (c.xE no v).2/\(c.xE no v).2.rest /\
  ((c.yh (true,q)).1.2≠0->c.dk.uh (c.xE no v).1.2/\(c.xE no v).1.2≠0)/\((c.yh (true,q)).1.2=0->∃ u,ua q (c.pg (true,q))=some u/\(c.xE no v).1=o9 u no v):=by
 have hun:=s.ok.zU;have hi:c.tC (true,q):=by unfold Ca.tC;rw [if_pos rfl];exact hq
 obtain ⟨f1,f2,f3,f4,f5⟩:=lh s r hi (by show q<_;omega);have hr:(ua q (c.pg (true,q))).isSome=true:=by
  have:=Zc s (i:=(true,q)) (by show q<_;omega);unfold qr at this;rw [if_pos rfl] at this;exact this
 obtain ⟨u,hu⟩:=Option.isSome_iff_exists.1 hr;unfold Ca.xE;rw [if_neg O_,show v.pp-1=q by omega];by_cases h1:(c.yh (true,q)).1.2=1
 ·rw [if_pos h1];have wO:(c.yh (true,q)).1.2≠0:=O_;refine ⟨f1,f2,f4 wO,λ_=>⟨⟨λl=>?_,λl=>?_⟩,by show ¬ (2:Int)=0;decide⟩,λe=>absurd e wO⟩
  ·have:=f3.1 l;omega
  ·have:=f3.2 l;omega
 ·rw [if_neg h1];by_cases h:(c.yh (true,q)).1.2=0
  ·obtain ⟨e1,e2⟩:=f5 h;obtain ⟨u1,u2,u3⟩:=ng f1 e2;rw [if_neg O_,e1,hu];exact ⟨u1,f2.trans u2,u3,λe=>absurd h e,λ_=>⟨u,rfl,rfl⟩⟩
  ·rw [if_pos h];exact ⟨f1,f2,f4 h,λ_=>⟨f3,h⟩,λe=>absurd e h⟩
theorem fN {c:Ca} {i:vd} (h:¬ c.tC i):c.yh i=((xM 224,1),c):=by
 unfold Ca.yh Ca.wA;rw [if_neg h]
theorem SS {c:Ca} {ro:Ro} {r:Rc} (h:¬ (r.may=true/\r.k≠1/\r.k≠6)\/¬ c.tC (r.zU,r.no.toNat)):c.yy ro r=(1,c,ro):=by
 unfold Ca.yy;by_cases g:r.may=true/\r.k≠1/\r.k≠6
 ·rw [if_pos g];rcases h with q | q
  ·exact absurd g q
  ·rw [fN q,if_neg (show ¬ (1:Int)=0 from D_)]
 ·rw [if_neg g]
theorem Lz {u:Un} (hu:u.ok) {no:Nat} {v:Dt} (vo:v.ok):(o9 u no v).1.ok:=by
 unfold o9;cases hs:w5 u.zt v.ps.toNat with
 | none=>exact kW
 | some o =>
  have ho:o∈u.zt:=by
   unfold w5 at hs;cases hx:u.zt[v.ps.toNat]? with
   | none=>rw [hx] at hs;cases hs
   | some y =>
    rw [hx] at hs;simp only at hs;split at hs
    ·cases hs;exact List.mem_of_getElem? hx
    ·cases hs
  obtain ⟨o1,o2,o3,o4⟩:=hu.zt o ho;simp only;split
  ·exact kW
  ·split
   ·exact ⟨by show 0<_;omega,o2,o3,oA _ _ _ _ _ vo.body⟩
   ·exact kW
theorem Yp (c:Ca) (no:Nat):(c.yg no).2.dk=(c.yh (false,no)).2.dk:=by
 unfold Ca.yg;split
 ·exact nu _ _
 ·rfl
theorem nA {c:Ca} (s:Sv c) (r:c.rest) {k:Nat} (u:c.ub k) {no:Nat} (vk:no<c.zH):(c.yg no).2.ub (k+1):=by
 have Oc:=s.ok.zH;have hi:c.tC (false,no):=by unfold Ca.tC;rw [if_neg S_];exact vk
 obtain ⟨n1,n2,n3,n4,n5,n6⟩:=qZ s r vk;obtain ⟨f1,f2,f3⟩:=Ue s u (lh s r hi (by show no<_;omega)).2.1;exact ⟨by rw [Yp];exact f1,by rw [Yp];exact f2,by rw [n2.lg.fin];have:=u.fin;omega⟩
theorem U7 (c:Ca) {no q:Nat} {v:Dt} (hv:v.pp=q+1):(c.xE no v).2.dk=(c.yh (true,q)).2.dk:=by
 unfold Ca.xE;rw [if_neg O_,show v.pp-1=q by omega];split
 ·rfl
 ·split
  ·rfl
  ·exact nu _ _
theorem az {c:Ca} (s:Sv c) (r:c.rest) {k:Nat} (u:c.ub k) {no q:Nat} {v:Dt} (hv:v.pp=q+1) (hq:q<c.zU):(c.xE no v).2.ub (k+1):=by
 have hun:=s.ok.zU;have hi:c.tC (true,q):=by unfold Ca.tC;rw [if_pos rfl];exact hq
 obtain ⟨n1,n2,n3,n4,n5⟩:=iT s r (no:=no) hv hq;obtain ⟨f1,f2,f3⟩:=Ue s u (lh s r hi (by show q<_;omega)).2.1;exact ⟨by rw [U7 c hv];exact f1,by rw [U7 c hv];exact f2,by rw [n2.lg.fin];have:=u.fin;omega⟩
theorem iX:∀ (m:Nat) {c:Ca} {k:Nat},Sv c->c.rest->c.ub k->k+m<=40000->c.deep m
 | 0,c,k,_,_,_,_=>trivial
 | m+1,c,k,s,r,u,hk=>by
  have self:c.deep m:=iX m s r u O_;refine ⟨Ik s r u O_,λro rc o=>?_,λno vk=>?_,λno v vo=>?_⟩
  ·by_cases h:(rc.may=true/\rc.k≠1/\rc.k≠6)/\c.tC (rc.zU,rc.no.toNat)
   ·obtain ⟨⟨h1,h2,h3⟩,h4⟩:=h;have ch:=kf s r ro o h1 h2 h3 h4 (by have:=u.fin;omega);exact iX m ch.sv ch.rest (oY s u ro ch.fin) O_
   ·rw [SS (by rcases Classical.not_and_iff_not_or_not.1 h with q | q;exact .inl q;exact .inr q)];exact self
  ·by_cases h:no<c.zH
   ·obtain ⟨n1,n2,n3,n4,n5,n6⟩:=qZ s r h;exact ⟨iX m n1 n3 (nA s r u h) O_,n6⟩
   ·have hf:c.yh (false,no)=((xM 224,1),c):=fN (by unfold Ca.tC;rw [if_neg S_];exact h);have e:c.yg no=((Dt.z,1),c):=by
     unfold Ca.yg;rw [hf,if_neg (show ¬ (1:Int)=0 from D_)]
    rw [e];exact ⟨self,kW⟩
  ·cases hp:v.pp with
   | zero =>
    have e:c.xE no v=((Dt.z,1),c):=by unfold Ca.xE;rw [if_pos hp]
    rw [e];exact ⟨self,kW⟩
   | succ q =>
    by_cases h:q<c.zU
    ·obtain ⟨n1,n2,n3,n4,n5⟩:=iT s r (no:=no) hp h;refine ⟨iX m n1 n3 (az s r u hp h) O_,?_⟩;by_cases he:(c.yh (true,q)).1.2=0
     ·obtain ⟨w,w1,w2⟩:=n5 he;rw [w2];exact Lz (iU (m0 s _) w1).1 vo
     ·unfold Ca.xE;rw [if_neg O_,show v.pp-1=q by omega];split
      ·exact kW
      ·exact kW
    ·have hf:c.yh (true,q)=((xM 224,1),c):=fN (by unfold Ca.tC;rw [if_pos rfl];exact h);have e:c.xE no v=((Dt.z,2),c):=by
      unfold Ca.xE;rw [if_neg O_,show v.pp-1=q by omega,hf,if_pos rfl]
     rw [e];exact ⟨self,kW⟩
theorem jw {l:List Ol} {j:Nat} {o:Ol}:w5 l j=some o↔l[j]?=some o/\o.live=true:=by
 unfold w5;cases hx:l[j]? with
 | none=>simp
 | some y =>
  simp only;by_cases h:y.live=true
  ·rw [if_pos h];constructor
   ·intro e;cases e;exact ⟨rfl,h⟩
   ·intro e;cases e.1;rfl
  ·rw [if_neg h];constructor
   ·intro e;cases e
   ·intro e;cases e.1;exact absurd e.2 h
theorem YB {l:List Ol} {n i:Nat} (h:xv l n=some i):w5 l i=none:=by
 obtain ⟨h1,h2,h3,h4,h5,h6,h7⟩:=wz h;rcases Nat.lt_or_ge i l.length with q | q
 ·have:=h7 q;unfold w5;rw [List.getElem?_eq_getElem q] at this ⊢;simp only [Option.map_some,Option.some.injEq] at this ⊢;rw [if_neg (by rw [this];decide)]
 ·unfold w5;rw [List.getElem?_eq_none q]
theorem Yu {l:List Ol} {n i:Nat} (h:xv l n=some i) (o:Ol) (j:Nat):(yS l i o)[j]?=if j=i then some o else l[j]?:=by
 obtain ⟨h1,h2,h3,h4,h5,h6,h7⟩:=wz h;unfold yS;by_cases e:i=l.length
 ·rw [if_pos e];subst e;by_cases q:j=l.length
  ·subst q;rw [if_pos rfl,List.getElem?_append_right (Nat.le_refl _),Nat.sub_self];rfl
  ·rw [if_neg q];rcases Nat.lt_or_ge j l.length with g | g
   ·rw [List.getElem?_append_left g]
   ·rw [List.getElem?_eq_none (by simp;omega),List.getElem?_eq_none g]
 ·rw [if_neg e,List.getElem?_set];by_cases q:i=j
  ·subst q;rw [if_pos rfl,if_pos O_,if_pos rfl]
  ·rw [if_neg q,if_neg λw=>q w.symm]
theorem YA {l:List Ol} {n i:Nat} (h:xv l n=some i) {o:Ol} (ho:o.live=true) (j:Nat):w5 (yS l i o) j=if j=i then some o else w5 l j:=by
 unfold w5;rw [Yu h];by_cases q:j=i
 ·rw [if_pos q,if_pos q];simp only;rw [if_pos ho]
 ·rw [if_neg q,if_neg q]
theorem Uw (a b:List Ol):wi (a++b)=wi a+wi b:=by unfold wi;rw [List.filter_append,List.length_append]
theorem aJ:∀ {l:List Ol} {i:Nat} {a o:Ol},l[i]?=some a->wi (l.set i o)+(if a.live then 1 else 0)=wi l+(if o.live then 1 else 0)
 | [],i,a,o,h=>by cases h
 | x :: l,0,a,o,h=>by
  cases h;unfold wi;rw [List.set_cons_zero,List.filter_cons,List.filter_cons];split <;> split <;> simp
 | x :: l,i+1,a,o,h=>by
  have:=aJ (l:=l) (i:=i) (a:=a) (o:=o) h;unfold wi at this ⊢;rw [List.set_cons_succ,List.filter_cons,List.filter_cons];split
  ·simp only [List.length_cons];omega
  ·exact this
theorem LE {l:List Ol} {n i:Nat} (h:xv l n=some i) {o:Ol} (ho:o.live=true):wi (yS l i o)=wi l+1:=by
 obtain ⟨h1,h2,h3,h4,h5,h6,h7⟩:=wz h;unfold yS;by_cases e:i=l.length
 ·rw [if_pos e,Uw];unfold wi;simp [ho]
 ·rw [if_neg e];have il:i<l.length:=O_;have hl:=h7 il;rw [List.getElem?_eq_getElem il] at hl;have:=aJ (o:=o) (List.getElem?_eq_getElem il);simp only [Option.map_some,Option.some.injEq] at hl;rw [hl,ho] at this;simpa using this
theorem Ze (l:List Ol):∀ (k j:Nat),uX l k<=j->j<k->k<=l.length->(l[j]?.map Ol.live)=some false
 | 0,j,_,h,_=>by omega
 | k+1,j,h1,h2,h3=>by
  unfold uX at h1;rw [List.getElem?_eq_getElem O_] at h1;split at h1
  ·omega
  ·rename_i g;by_cases e:j=k
   ·subst e;rw [List.getElem?_eq_getElem O_];simpa using g
   ·exact Ze l k j h1 O_ O_
theorem Yd (l:List Ol):∀ k,k<=l.length->wi (l.take (uX l k))=wi (l.take k)
 | 0,_=>rfl
 | k+1,h=>by
  unfold uX;split
  ·rfl
  ·rename_i g;rw [Yd l k O_,List.take_add_one,List.getElem?_eq_getElem O_,Uw];rw [List.getElem?_eq_getElem O_] at g;simp at g;unfold wi;simp [g]
theorem Ty {u v:Un} {i:Nat} (h:uN u i=some v) (j:Nat):w5 v.zt j=if j=i then none else w5 u.zt j:=by
 unfold uN at h;split at h
 ·rename_i g;cases h;have il:=py g.1;have dead:=Ze (u.zt.set i Ol.z) u.zt.length j;have gz:∀ j,w5 (u.zt.set i Ol.z) j=if j=i then none else w5 u.zt j:=λj=>by
   unfold w5;rw [List.getElem?_set];by_cases q:i=j
   ·subst q;rw [if_pos rfl,if_pos il,if_pos rfl];rfl
   ·rw [if_neg q,if_neg λw=>q w.symm]
  rw [<- gz];show w5 ((u.zt.set i Ol.z).take _) j=_;unfold w5;rw [List.getElem?_take];by_cases q:j<uX (u.zt.set i Ol.z) u.zt.length
  ·rw [if_pos q]
  ·rw [if_neg q];rcases Nat.lt_or_ge j u.zt.length with w | w
   ·have hd:=dead O_ w (by rw [List.length_set];exact Nat.le_refl _);cases hx:(u.zt.set i Ol.z)[j]? with
    | none=>rfl
    | some y =>
     rw [hx] at hd;simp only [Option.map_some,Option.some.injEq] at hd;simp only [hd];rfl
   ·rw [List.getElem?_eq_none (by rw [List.length_set];exact w)]
 ·cases h
theorem Nm {u v:Un} {i:Nat} (h:uN u i=some v):wi v.zt+1=wi u.zt:=by
 unfold uN at h;split at h
 ·rename_i g;cases h;have il:=py g.1;obtain ⟨o,ho⟩:=Option.isSome_iff_exists.1 g.1;obtain ⟨o1,o2⟩:=jw.1 ho;have hs:=aJ (o:=Ol.z) o1;show wi ((u.zt.set i Ol.z).take _)+1=_;have hl:u.zt.length=(u.zt.set i Ol.z).length:=(List.length_set ..).symm;have ht:=Yd (u.zt.set i Ol.z) u.zt.length (by rw [<- hl];exact Nat.le_refl _);rw [ht,hl,List.take_length];rw [o2,show Ol.z.live=false from rfl] at hs;simpa using hs
 ·cases h
theorem TH {u:Un} {i:Nat} (h:(w5 u.zt i).isSome=true) (hm:wZ u.zt=true):∃ v,uN u i=some v:=by
 unfold uN;rw [if_pos ⟨h,hm⟩];exact ⟨_,rfl⟩
theorem VJ (b:UInt8):c1 ((b.toNat:Nat):Int)=b:=by
 unfold wT.c1;rw [Int.toNat_natCast];exact UInt8.ofNat_toNat
theorem Ld (u at_:Nat) {o:Ol} (ho:o.live=true):Rc.kJ (tH u at_ o)=o:=by
 obtain ⟨a,b,d,e,g,i⟩:=o;show Ol.mk a ((b:Nat):Int).toNat ((d:Nat):Int).toNat ((e:Nat):Int).toNat (c1 ((g.toNat:Nat):Int)) i=_;rw [VJ,Int.toNat_natCast,Int.toNat_natCast,Int.toNat_natCast]
theorem LY {u zZ:Nat} {p:List UInt8} {r:Rc} {U:Un} (hU:ua u p=some U):tT u p zZ r=(t9 U r).map λv:Un=>tg u ⟨zZ,v.zt⟩:=by
 unfold tT;rw [hU]
theorem aB {u zZ:Nat} {p:List UInt8} {r:Rc} {U:Un} (hU:ua u p=some U) (hk:r.k≠1):rA (true,u) p zZ r=(t9 U r).map λv:Un=>tg u ⟨zZ,v.zt⟩:=by
 unfold rA;rw [if_pos rfl,show Rc.Zy r p=p from if_neg hk];exact LY hU
theorem LR {u at_ zZ:Nat} {o:Ol} {p:List UInt8} {U:Un} (hU:ua u p=some U) (ho:o.live=true) (hp:xv U.zt o.dl.length=some at_) (hu:u<65536) :
 rA (true,u) p zZ (tH u at_ o)=some (tg u ⟨zZ,yS U.zt at_ o⟩):=by
 obtain ⟨h1,h2,h3,h4,h5,h6,h7⟩:=wz hp;have ha:uw U o=(⟨U.zZ,yS U.zt at_ o⟩,at_,0):=by
  unfold uw;rw [if_neg (by rw [h2,ho];simp;omega),hp]
 rw [aB hU (show ¬ (3:Int)=1 from D_)];have pN:t9 U (tH u at_ o)=some ⟨U.zZ,yS U.zt at_ o⟩:=by
  unfold t9;rw [if_pos (show (tH u at_ o).k=3 from rfl),Ld u at_ ho,ha,if_pos ⟨rfl,rfl⟩]
 rw [pN];rfl
theorem Ls {u at_ zZ:Nat} {o:Ol} {U:Un} (ok:U.ok) (hl:zZ<18446744073709551616) (oo:o.ok) (ho:o.live=true) (hp:xv U.zt o.dl.length=some at_) (hu:u<65536) :
 ua u (tg u ⟨zZ,yS U.zt at_ o⟩)=some ⟨zZ,yS U.zt at_ o⟩:=by
 have hm:=U5 ho hp;refine lz hu ⟨hl,λx hx=>?_,by have:=px hm;show (yS U.zt at_ o).length<=_;omega⟩ hm;obtain ⟨j,hj⟩:=List.mem_iff_getElem?.1 (show x∈yS U.zt at_ o from hx);rw [Yu hp] at hj;split at hj
 ·cases hj;exact oo
 ·exact ok.zt x (List.mem_of_getElem? hj)
theorem OC {u zZ:Nat} {sl:UInt8} {p:List UInt8} {U:Un} (hU:ua u p=some U):rA (true,u) p zZ (vg u sl)=(uN U sl.toNat).map λv:Un=>tg u ⟨zZ,v.zt⟩:=by
 rw [aB hU (show ¬ (4:Int)=1 from D_)];have pN:t9 U (vg u sl)=uN U sl.toNat:=by
  unfold t9;rw [if_neg (show ¬ (vg u sl).k=3 by show ¬ (4:Int)=3;decide),if_pos (show (vg u sl).k=4 from rfl)];show uN U ((sl.toNat:Nat):Int).toNat=_;rw [Int.toNat_natCast]
 rw [pN]
theorem OZ {u zZ i:Nat} {U V:Un} (ok:U.ok) (hl:zZ<18446744073709551616) (hf:uN U i=some V) (hu:u<65536):ua u (tg u ⟨zZ,V.zt⟩)=some ⟨zZ,V.zt⟩:=by
 have hm:=(YG hf).1;refine lz hu ⟨hl,λx hx=>?_,by have:=px hm;show V.zt.length<=_;omega⟩ hm;unfold uN at hf;split at hf
 ·cases hf;rcases List.mem_or_eq_of_mem_set (List.mem_of_mem_take (show x∈(U.zt.set i Ol.z).take _ from hx)) with q | rfl
  ·exact ok.zt x q
  ·exact ⟨D_,D_,D_,D_⟩
 ·cases hf
theorem Md {no ts pp zZ:Nat} {ps:UInt8} {body p:List UInt8} (hd:ur no p) (hp:p.length=224) (hb:body.length=64) :
 rA (false,no) p zZ (vF no ts pp ps (xC (rq p).body body))=some (rF no ⟨zZ,ts,pp,ps,body⟩):=by
 have hm:=ay (rZ hp).body hb;unfold rA;rw [if_neg S_];unfold ao;rw [show Rc.Zy (vF no ts pp ps (xC (rq p).body body)) p=p from if_neg (show ¬ (2:Int)=1 from D_),if_neg (λq=>q hd)];rw [show (vF no ts pp ps (xC (rq p).body body)).dl=xC (rq p).body body from rfl,hm,if_neg S_];congr 2;unfold Pq;rw [if_pos (show (vF no ts pp ps (xC (rq p).body body)).k=2 from rfl)];show Dt.mk zZ ((ts:Nat):Int).toNat ((pp:Nat):Int).toNat (c1 ((ps.toNat:Nat):Int)) body=_;rw [VJ,Int.toNat_natCast,Int.toNat_natCast]
def qj (ro:Ro) (x:Nat × Nat):Option Ol:=w5 (ro.xu x.1).zt x.2
def AB (ro:Ro) (no:Nat):Dt->List Dt->List (Nat × Nat)->Prop
 | v,[],[]=>v.pp=0
 | v,w :: l,x :: ps=>v.pp=x.1+1/\v.ps.toNat=x.2/\x.1<ro.us.length/\(∃ o,qj ro x=some o/\o.xu=no/\o.ts<v.ts/\wD v.body o.dl=(true,w.body)/\w=⟨0,o.ts,o.np,o.ns,w.body⟩)/\AB ro no w l ps
 | _,_,_=>False
theorem iA {ro Y6:Ro} {no:Nat} (hl:Y6.us.length=ro.us.length):∀ {v:Dt} {l:List Dt} {ps:List (Nat × Nat)},(∀ x∈ps,qj Y6 x=qj ro x)->AB ro no v l ps->AB Y6 no v l ps
 | v,[],[],_,h=>h
 | v,w :: l,x :: ps,hp,h=>by
  obtain ⟨h1,h2,h3,h4,h5⟩:=h;exact ⟨h1,h2,by rw [hl];exact h3,by rw [hp x (List.mem_cons_self ..)];exact h4,iA hl (λy hy=>hp y (List.mem_cons_of_mem _ hy)) h5⟩
 | v,[],x :: ps,_,h=>h.elim
 | v,w :: l,[],_,h=>h.elim
theorem Vz {ro:Ro} {no:Nat} {v v':Dt} {l:List Dt} {ps:List (Nat × Nat)} (h:AB ro no v l ps) (e1:v'.ts=v.ts) (e2:v'.pp=v.pp) (e3:v'.ps=v.ps) (e4:v'.body=v.body):AB ro no v' l ps:=by
 cases l with
 | nil =>
  cases ps with
  | nil=>exact e2.trans h
  | cons x ps=>exact h.elim
 | cons w l =>
  cases ps with
  | nil=>exact h.elim
  | cons x ps =>
   obtain ⟨h1,h2,h3,h4,h5⟩:=h;exact ⟨e2.trans h1,by rw [e3];exact h2,h3,by rw [e1,e4];exact h4,h5⟩
theorem Zf {ro:Ro} {no:Nat}:∀ {v:Dt} {l:List Dt} {ps:List (Nat × Nat)},AB ro no v l ps->∀ x∈ps,∃ o,qj ro x=some o
 | v,[],[],_,x,hx=>nomatch hx
 | v,w :: l,y :: ps,h,x,hx=>by
  obtain ⟨h1,h2,h3,⟨o,h4,_⟩,h5⟩:=h;rcases List.mem_cons.1 hx with rfl | q
  ·exact ⟨o,h4⟩
  ·exact Zf h5 x q
 | v,[],x :: ps,h,_,_=>h.elim
 | v,w :: l,[],h,_,_=>h.elim
structure Cm (c:Ca) (ro:Ro):Prop where
 sv:Sv c
 rest:c.rest
 len:ro.us.length=c.zU
 last:ro.last<c.zU
 room:∀ q,q<c.zU->ua q (c.pg (true,q))=some (ro.xu q)
theorem Cm.as {c c':Ca} {ro:Ro} (m:Cm c ro) (a:c.as c') (s:Sv c') (r:c'.rest):Cm c' ro :=
 ⟨s,r,by rw [a.zU];exact m.len,by rw [a.zU];exact m.last,λq hq=>by
  rw [a.zU] at hq;rw [a.pg (true,q) (by unfold Ca.tC;rw [if_pos rfl];exact hq)];exact m.room q hq⟩
def Ca.data (c:Ca) (no:Nat):Dt:=rq (c.pg (false,no))
abbrev eS:=Nat->List Dt
abbrev eY:=Nat->List (Nat × Nat)
structure Vs (c:Ca) (ro:Ro) (vs:eS) (ps:eY):Prop where
 cm:Cm c ro
 chain:∀ no,no<c.zH->AB ro no (c.data no) (vs no) (ps no)
 nd:∀ no,no<c.zH->(ps no).Nodup
 Jx:∀ a b,a<c.zH->b<c.zH->a≠b->∀ x∈ps a,x ∉ ps b
theorem fK {c:Ca} {no:Nat}:c.tC (false,no)↔no<c.zH:=by unfold Ca.tC;rw [if_neg S_]
theorem Nw {c:Ca} {q:Nat}:c.tC (true,q)↔q<c.zU:=by unfold Ca.tC;rw [if_pos rfl]
theorem Vs.as {c c':Ca} {ro:Ro} {vs:eS} {ps:eY} (m:Vs c ro vs ps) (a:c.as c') (s:Sv c') (r:c'.rest):Vs c' ro vs ps:=by
 refine ⟨m.cm.as a s r,λno hn=>?_,λno hn=>m.nd no (by rw [<- a.zH];exact hn),λx y hx hy=>m.Jx x y (by rw [<- a.zH];exact hx) (by rw [<- a.zH];exact hy)⟩;rw [a.zH] at hn;unfold Ca.data;rw [a.pg (false,no) (fK.2 hn)];exact m.chain no hn
theorem Cm.ro {c:Ca} {ro Y6:Ro} (m:Cm c ro) (h:Y6.us=ro.us) (hl:Y6.last<c.zU):Cm c Y6 :=
 ⟨m.sv,m.rest,by rw [h];exact m.len,hl,λq hq=>by rw [show Y6.xu q=ro.xu q by unfold Ro.xu;rw [h]];exact m.room q hq⟩
theorem Lx {ro Y6:Ro} (h:Y6.us=ro.us) (x:Nat × Nat):qj Y6 x=qj ro x:=by
 unfold qj Ro.xu;rw [h]
theorem Vs.ro {c:Ca} {ro Y6:Ro} {vs:eS} {ps:eY} (m:Vs c ro vs ps) (h:Y6.us=ro.us) (hl:Y6.last<c.zU):Vs c Y6 vs ps :=
 ⟨m.cm.ro h hl,λno hn=>iA (by rw [h]) (λx _=>Lx h x) (m.chain no hn),m.nd,m.Jx⟩
theorem ki {ro:Ro} {u:Nat} {U:Un} (hu:u<ro.us.length) (q:Nat):(ro.note u U).xu q=if q=u then U else ro.xu q:=by
 unfold Ro.note Ro.xu;simp only;rw [List.getElem?_set];by_cases e:u=q
 ·subst e;rw [if_pos rfl,if_pos hu,if_pos rfl];rfl
 ·rw [if_neg e,if_neg λw=>e w.symm]
def Ro.jK (ro:Ro):Nat:=(ro.us.map λu=>wi u.zt).sum
theorem Ph:∀ {l:List Nat} {i a b:Nat},l[i]?=some a->(l.set i b).sum+a=l.sum+b
 | [],i,a,b,h=>by cases h
 | x :: l,0,a,b,h=>by cases h;simp;omega
 | x :: l,i+1,a,b,h=>by
  have:=Ph (l:=l) (i:=i) (a:=a) (b:=b) h;simp only [List.set_cons_succ,List.sum_cons];omega
theorem UJ {ro:Ro} {u:Nat} {U:Un} (hu:u<ro.us.length):(ro.note u U).jK+wi (ro.xu u).zt=ro.jK+wi U.zt:=by
 unfold Ro.note Ro.jK Ro.xu;simp only;rw [List.map_set];apply Ph;rw [List.getElem?_map,List.getElem?_eq_getElem hu];rfl
theorem QL {c c':Ca} {ro:Ro} {u:Nat} {x:List UInt8} {U:Un} (m:Cm c ro) (hu:u<c.zU) (s:Sv c') (r:c'.rest) (on:c.on c') (hx:c'.pg (true,u)=x) (hU:ua u x=some U) (ho:∀ m,m≠(true,u)->c.tC m->c'.pg m=c.pg m) :
 Cm c' (ai (true,u) ro (ZC (ua u x)).1)/\ai (true,u) ro (ZC (ua u x)).1=ro.note u U:=by
 have e:ai (true,u) ro (ZC (ua u x)).1=ro.note u U:=by
  unfold ai;rw [if_pos rfl,hU];rfl
 rw [e];refine ⟨⟨s,r,?_,?_,λq hq=>?_⟩,rfl⟩
 ·show (ro.us.set u U).length=_;rw [List.length_set,on.zU];exact m.len
 ·rw [on.zU];exact m.last
 ·rw [on.zU] at hq;rw [ki (by rw [m.len];exact hu)];by_cases g:q=u
  ·subst g;rw [if_pos rfl,hx];exact hU
  ·rw [if_neg g,ho (true,q) (by simpa using g) (Nw.2 hq)];exact m.room q hq
theorem PQ {c:Ca} {ro:Ro} (m:Cm c ro) {q:Nat} (hq:q<c.zU):(ro.xu q).ok:=(iU (m0 m.sv _) (m.room q hq)).1
structure FreS (c:Ca) (ro:Ro) (vs:eS) (ps:eY) (x:Nat × Nat) (y:Int × Ca × Ro):Prop where
 vs:Vs y.2.1 y.2.2 vs ps
 on:c.on y.2.1
 fin:y.2.1.lg.fin<=c.lg.fin+406
 blocks:y.2.1.lg.blocks<=c.lg.blocks+2
 data:∀ no,no<c.zH->y.2.1.data no=c.data no
 ok:(∃ o,qj ro x=some o)->c.dk.wG->c.lg.blocks+2<=c.lg.size->y.1=0/\y.2.2.jK+1=ro.jK
theorem VD {c:Ca} {ro:Ro} {vs:eS} {ps:eY} (m:Vs c ro vs ps) {u:Nat} {sl:UInt8} (hu:u<c.zU) (hp:∀ no,no<c.zH->(u,sl.toNat) ∉ ps no) (hf:c.lg.fin<999999990000):FreS c ro vs ps (u,sl.toNat) (c.pR ro (u+1) sl):=by
 have hun:=m.cm.sv.ok.zU;have hU:=m.cm.room u hu;have e:c.pR ro (u+1) sl=c.yy ro (vg u sl):=by
  unfold Ca.pR;rw [if_neg O_,Nat.add_sub_cancel]
 rw [e];have hi:c.tC ((vg u sl).zU,(vg u sl).no.toNat):=Nw.2 hu;have ch:=kf m.cm.sv m.cm.rest ro (VG O_ sl) (Ow u sl) (show ¬ (4:Int)=1 from D_) (show ¬ (4:Int)=6 from D_) hi hf;have Jy:((vg u sl).zU,(vg u sl).no.toNat)=(true,u):=rfl;obtain ⟨c1,c2,c3,c4,c5,c6⟩:=ch;rw [Jy] at c6;have Jq:rA (true,u) (c.pg (true,u)) c.lg.fin (vg u sl)=_:=OC hU;rw [Jq] at c6;rcases c6 with ⟨x,x1,x2,x3,x4,x5⟩ | ⟨x1,x2,x3,x4,x5,x6⟩
 ·cases M4:uN (ro.xu u) sl.toNat with
  | none=>rw [M4] at x1;cases x1
  | some V =>
   rw [M4] at x1;simp only [Option.map_some,Option.some.injEq] at x1;have hV:ua u x=some ⟨c.lg.fin,V.zt⟩:=by
    rw [<- x1];exact OZ (PQ m.cm hu) O_ M4 O_
   obtain ⟨m1,m2⟩:=QL m.cm hu c1 c2 c3 x3 hV x4;have vk:(vg u sl).no.toNat=u:=rfl;rw [vk] at x5;rw [<- x5] at m1 m2;have hgp:∀ no,no<c.zH->∀ y∈ps no,qj (c.yy ro (vg u sl)).2.2 y=qj ro y:=λno hn y hy=>by
    rw [m2];unfold qj;rw [ki (by rw [m.cm.len];exact hu)];by_cases g:y.1=u
    ·rw [if_pos g];show w5 V.zt y.2=_;rw [Ty M4,if_neg,g];intro q;exact hp no hn (by rw [<- g,<- q];exact hy)
    ·rw [if_neg g]
   have hdt:∀ no,no<c.zH->(c.yy ro (vg u sl)).2.1.data no=c.data no:=λno hn=>by
    unfold Ca.data;rw [x4 (false,no) S_ (fK.2 hn)]
   refine ⟨⟨m1,λno hn=>?_,λno hn=>m.nd no (by rw [<- c3.zH];exact hn),λa b ha hb=>m.Jx a b (by rw [<- c3.zH];exact ha) (by rw [<- c3.zH];exact hb)⟩,c3,c4,c5,hdt,λ_ _ _=>⟨x2,?_⟩⟩
   ·rw [c3.zH] at hn;rw [hdt no hn];refine iA ?_ (hgp no hn) (m.chain no hn);rw [m2];exact List.length_set ..
   ·rw [m2];have h1:=UJ (ro:=ro) (u:=u) (U:=⟨c.lg.fin,V.zt⟩) (by rw [m.cm.len];exact hu);have h2:=Nm M4;simp only at h1;omega
 ·have a:∀ no,no<c.zH->(c.yy ro (vg u sl)).2.1.data no=c.data no:=λno hn=>by
   unfold Ca.data;rw [x2 (false,no) (fK.2 hn)]
  have v:Vs (c.yy ro (vg u sl)).2.1 ro vs ps:=by
   refine ⟨⟨c1,c2,by rw [c3.zU];exact m.cm.len,by rw [c3.zU];exact m.cm.last,λq hq=>?_⟩,λno hn=>?_,λno hn=>m.nd no (by rw [<- c3.zH];exact hn),λa b ha hb=>m.Jx a b (by rw [<- c3.zH];exact ha) (by rw [<- c3.zH];exact hb)⟩
   ·rw [c3.zU] at hq;rw [x2 (true,q) (Nw.2 hq)];exact m.cm.room q hq
   ·rw [c3.zH] at hn;rw [a no hn];exact m.chain no hn
  refine ⟨by rw [x3];exact v,c3,c4,c5,a,λ⟨o,ho⟩ hfi T3=>?_⟩;exfalso;rcases x6 with ⟨q,_⟩ | ⟨q,_⟩ | q
  ·obtain ⟨V,hV⟩:=TH (u:=ro.xu u) (i:=sl.toNat) (by unfold qj at ho;rw [ho];rfl) (iU (m0 m.cm.sv _) hU).2;rw [hV] at q;cases q
  ·omega
  ·exact x1 (q.2 hfi)
theorem Vs.zA {c c':Ca} {ro:Ro} {vs:eS} {ps:eY} (m:Vs c ro vs ps) (s:Sv c') (r:c'.rest) (on:c.on c') (h:∀ i,c.tC i->c'.pg i=c.pg i):Vs c' ro vs ps/\∀ no,no<c.zH->c'.data no=c.data no:=by
 have a:∀ no,no<c.zH->c'.data no=c.data no:=λno hn=>by
  unfold Ca.data;rw [h (false,no) (fK.2 hn)]
 refine ⟨⟨⟨s,r,by rw [on.zU];exact m.cm.len,by rw [on.zU];exact m.cm.last,λq hq=>?_⟩,λno hn=>?_,λno hn=>m.nd no (by rw [<- on.zH];exact hn),λa b ha hb=>m.Jx a b (by rw [<- on.zH];exact ha) (by rw [<- on.zH];exact hb)⟩,a⟩
 ·rw [on.zU] at hq;rw [h (true,q) (Nw.2 hq)];exact m.cm.room q hq
 ·rw [on.zH] at hn;rw [a no hn];exact m.chain no hn
structure AddS (c:Ca) (ro:Ro) (vs:eS) (ps:eY) (u at_:Nat) (o:Ol) (y:Int × Ca × Ro):Prop where
 vs:Vs y.2.1 y.2.2 vs ps
 on:c.on y.2.1
 fin:y.2.1.lg.fin<=c.lg.fin+406
 blocks:y.2.1.lg.blocks<=c.lg.blocks+2
 data:∀ no,no<c.zH->y.2.1.data no=c.data no
 res:(y.1=0/\y.2.2=ro.note u ⟨c.lg.fin,yS (ro.xu u).zt at_ o⟩)\/(y.1≠0/\(c.lg.size<c.lg.blocks+2\/c.dk.uh y.1))
theorem DU {c:Ca} {ro:Ro} {vs:eS} {ps:eY} (m:Vs c ro vs ps) {u at_:Nat} {o:Ol} (hu:u<c.zU) (oo:o.ok) (ol:o.live=true) (hp:xv (ro.xu u).zt o.dl.length=some at_) (hf:c.lg.fin<999999990000):AddS c ro vs ps u at_ o (c.yy ro (tH u at_ o)):=by
 have hun:=m.cm.sv.ok.zU;have hU:=m.cm.room u hu;obtain ⟨p1,p2,p3,p4,p5,p6,p7⟩:=wz hp;have hi:c.tC ((tH u at_ o).zU,(tH u at_ o).no.toNat):=Nw.2 hu;have ch:=kf m.cm.sv m.cm.rest ro (RX O_ O_ oo) (LT ol p1) (show ¬ (3:Int)=1 from D_) (show ¬ (3:Int)=6 from D_) hi hf;have Jy:((tH u at_ o).zU,(tH u at_ o).no.toNat)=(true,u):=rfl;obtain ⟨c1,c2,c3,c4,c5,c6⟩:=ch;rw [Jy] at c6;have Jq:rA (true,u) (c.pg (true,u)) c.lg.fin (tH u at_ o)=_:=LR hU ol hp O_;rw [Jq] at c6;rcases c6 with ⟨x,x1,x2,x3,x4,x5⟩ | ⟨x1,x2,x3,x4,x5,x6⟩
 ·simp only [Option.some.injEq] at x1;have hV:ua u x=some ⟨c.lg.fin,yS (ro.xu u).zt at_ o⟩:=by
   rw [<- x1];exact Ls (PQ m.cm hu) O_ oo ol hp O_
  obtain ⟨m1,m2⟩:=QL m.cm hu c1 c2 c3 x3 hV x4;have vk:(tH u at_ o).no.toNat=u:=rfl;rw [vk] at x5;rw [<- x5] at m1 m2;have hdt:∀ no,no<c.zH->(c.yy ro (tH u at_ o)).2.1.data no=c.data no:=λno hn=>by
   unfold Ca.data;rw [x4 (false,no) S_ (fK.2 hn)]
  refine ⟨⟨m1,λno hn=>?_,λno hn=>m.nd no (by rw [<- c3.zH];exact hn),λa b ha hb=>m.Jx a b (by rw [<- c3.zH];exact ha) (by rw [<- c3.zH];exact hb)⟩,c3,c4,c5,hdt,.inl ⟨x2,m2⟩⟩;rw [c3.zH] at hn;rw [hdt no hn];refine iA (by rw [m2];exact List.length_set ..) (λy hy=>?_) (m.chain no hn);rw [m2];unfold qj;rw [ki (by rw [m.cm.len];exact hu)];by_cases g:y.1=u
  ·rw [if_pos g];show w5 (yS (ro.xu u).zt at_ o) y.2=_;rw [YA hp ol,if_neg,g];intro q;obtain ⟨o',rD⟩:=Zf (m.chain no hn) y hy;unfold qj at rD;rw [g,q,YB hp] at rD;cases rD
  ·rw [if_neg g]
 ·obtain ⟨v1,v2⟩:=m.zA c1 c2 c3 x2;refine ⟨by rw [x3];exact v1,c3,c4,c5,v2,.inr ⟨x1,?_⟩⟩;rcases x6 with ⟨q,_⟩ | ⟨q,_⟩ | q
  ·cases q
  ·exact .inl q
  ·exact .inr q
structure DatS (c:Ca) (ro:Ro) (vs:eS) (ps:eY) (no ts pp:Nat) (sl:UInt8) (body:List UInt8) (y:Int × Ca × Ro):Prop where
 on:c.on y.2.1
 fin:y.2.1.lg.fin<=c.lg.fin+406
 blocks:y.2.1.lg.blocks<=c.lg.blocks+2
 eq:y.2.2=ro
 cm:Cm y.2.1 ro
 res:(y.1=0/\y.2.1.data no=⟨c.lg.fin,ts,pp,sl,body⟩/\∀ m,m≠no->m<c.zH->y.2.1.data m=c.data m)\/(y.1≠0/\Vs y.2.1 ro vs ps/\(∀ no,no<c.zH->y.2.1.data no=c.data no)/\(c.lg.size<c.lg.blocks+2\/c.dk.uh y.1))
theorem P8 {c:Ca} {ro:Ro} {vs:eS} {ps:eY} (m:Vs c ro vs ps) {no ts pp:Nat} {sl:UInt8} {body:List UInt8} (hn:no<c.zH) (gy:ts<4294967296) (UW:pp<65536) (hb:body.length=64) (hf:c.lg.fin<999999990000) :
 DatS c ro vs ps no ts pp sl body (c.yy ro (vF no ts pp sl (xC (c.data no).body body))):=by
 have Oc:=m.cm.sv.ok.zH;have hl:=rR (a:=(c.data no).body) hb;have hi:c.tC ((vF no ts pp sl (xC (c.data no).body body)).zU,(vF no ts pp sl (xC (c.data no).body body)).no.toNat):=fK.2 hn;have ch:=kf m.cm.sv m.cm.rest ro (WG (ps:=sl) O_ gy UW O_) (Ms hl) (show ¬ (2:Int)=1 from D_) (show ¬ (2:Int)=6 from D_) hi hf;have Jy:((vF no ts pp sl (xC (c.data no).body body)).zU,(vF no ts pp sl (xC (c.data no).body body)).no.toNat)=(false,no):=rfl;obtain ⟨c1,c2,c3,c4,c5,c6⟩:=ch;rw [Jy] at c6;have hr:ur no (c.pg (false,no)):=by
  have:=Zc m.cm.sv (i:=(false,no)) (by show no<_;omega);unfold qr at this;rw [if_neg S_] at this;exact of_decide_eq_true this
 have Jq:rA (false,no) (c.pg (false,no)) c.lg.fin (vF no ts pp sl (xC (c.data no).body body))=_:=Md hr (m0 m.cm.sv _) hb;rw [Jq] at c6;rcases c6 with ⟨x,x1,x2,x3,x4,x5⟩ | ⟨x1,x2,x3,x4,x5,x6⟩
 ·simp only [Option.some.injEq] at x1;refine ⟨c3,c4,c5,x5,⟨c1,c2,by rw [c3.zU];exact m.cm.len,by rw [c3.zU];exact m.cm.last,λq hq=>?_⟩,.inl ⟨x2,?_,λm' hm hm2=>?_⟩⟩
  ·rw [c3.zU] at hq;rw [x4 (true,q) S_ (Nw.2 hq)];exact m.cm.room q hq
  ·show rq ((c.yy ro (vF no ts pp sl (xC (c.data no).body body))).2.1.pg (false,no))=_;rw [x3,<- x1];exact VI ⟨by show c.lg.fin<_;omega,gy,UW,hb⟩
  ·show rq ((c.yy ro (vF no ts pp sl (xC (c.data no).body body))).2.1.pg (false,m'))=rq (c.pg (false,m'));rw [x4 (false,m') (by simpa using hm) (fK.2 hm2)]
 ·obtain ⟨v1,v2⟩:=m.zA c1 c2 c3 x2;refine ⟨c3,c4,c5,x3,v1.cm,.inr ⟨x1,v1,v2,?_⟩⟩;rcases x6 with ⟨q,_⟩ | ⟨q,_⟩ | q
  ·cases q
  ·exact .inl q
  ·exact .inr q
def NR {α:Type} (f:Nat->α) (no:Nat) (l:α):Nat->α:=λm=>if m=no then l else f m
theorem qF {α:Type} (f:Nat->α) (no:Nat) (l:α):NR f no l no=l:=if_pos rfl
theorem pI {α:Type} (f:Nat->α) {no m:Nat} (l:α) (h:m≠no):NR f no l m=f m:=if_neg h
theorem Qu {c:Ca} (s:Sv c) {k:Nat} (u:c.ub k) (ro:Ro) {pg:Nat} {sl:UInt8} (hf:(c.pR ro pg sl).2.1.lg.fin<=c.lg.fin+406):(c.pR ro pg sl).2.1.ub (k+1):=by
 unfold Ca.pR at hf ⊢;by_cases h:pg=0
 ·rw [if_pos h];exact u.mono O_
 ·rw [if_neg h] at hf ⊢;exact oY s u ro hf
structure InsS (c:Ca) (ro:Ro) (vs:eS) (ps:eY) (no ts:Nat) (body:List UInt8) (y:Int × Ca × Ro):Prop where
 on:c.on y.2.1
 blocks:y.2.1.lg.blocks<=c.lg.blocks+6
 bfine:c.dk.wG->y.2.1.lg.blocks<=c.lg.blocks+4
 ub:∀ k,c.ub k->y.2.1.ub (k+4)
 res:(y.1=0/\(c.data no).ts<ts/\(∃ ZG,Vs y.2.1 y.2.2 (NR vs no ({ c.data no with zZ:=0 } :: vs no)) ZG)/\(y.2.1.data no).ts=ts/\(y.2.1.data no).body=body/\(∀ m,m≠no->m<c.zH->y.2.1.data m=c.data m)/\y.2.2.jK=ro.jK+1 /\
  ∃ u at_ o zZ,u<c.zU/\o.live=true/\o.dl.length<=66/\o.dl.length=(xC body (c.data no).body).length/\xv (ro.xu u).zt o.dl.length=some at_/\y.2.2.us=ro.us.set u ⟨zZ,yS (ro.xu u).zt at_ o⟩) \/
  (y.1≠0/\Vs y.2.1 y.2.2 vs ps/\(∀ m,m<c.zH->y.2.1.data m=c.data m) /\
   ((y.1=1/\ts<=(c.data no).ts/\y.2.2=ro/\c.as y.2.1)\/(y.1=5/\(c.data no).ts<ts/\(∀ u∈ro.us,uO (xC body (c.data no).body).length u=false)/\y.2.2=ro/\c.as y.2.1)\/c.dk.uh y.1))
theorem Uj {c:Ca} {ro:Ro} {vs:eS} {ps:eY} (m:Vs c ro vs ps) {no ts:Nat} {body:List UInt8} (hn:no<c.zH) (gy:ts<4294967296) (hb:body.length=64) (hf:c.lg.fin<999999900000) (T3:c.lg.blocks+6<=c.lg.size) :
 InsS c ro vs ps no ts body (c.wd ro no ts body):=by
 have Oc:=m.cm.sv.ok.zH;have hun:=m.cm.sv.ok.zU;have X7:=m0 m.cm.sv (false,no);have kN:(c.data no).ok:=rZ X7;obtain ⟨n1,n2,n3,n4,n5,n6⟩:=qZ m.cm.sv m.cm.rest hn;have NP:∀ k,c.ub k->(c.yg no).2.ub (k+1):=λk u=>nA m.cm.sv m.cm.rest u hn;have m2:=m.as n2 n1 n3;have pS:∀ m,m<c.zH->(c.yg no).2.data m=c.data m:=λm' hm=>by
  unfold Ca.data;rw [n2.pg (false,m') (fK.2 hm)]
 unfold Ca.wd;generalize hnw:c.yg no=nw at *;obtain ⟨⟨d,e⟩,c2⟩:=nw;simp only at n1 n2 n3 n4 n5 n6 m2 pS NP ⊢;by_cases he:e=0
 case neg =>
  rw [if_neg he];exact ⟨n2.on,by show c2.lg.blocks<=_;rw [n2.lg.blocks];omega,λ_=>by show c2.lg.blocks<=_;rw [n2.lg.blocks];omega,λk u=>(NP k u).mono O_,.inr ⟨he,m2,pS,.inr (.inr n4)⟩⟩
 rw [if_pos he];have hd:d=c.data no:=n5 he;by_cases ht:ts<=d.ts
 ·rw [if_pos ht];exact ⟨n2.on,by show c2.lg.blocks<=_;rw [n2.lg.blocks];omega,λ_=>by show c2.lg.blocks<=_;rw [n2.lg.blocks];omega,λk u=>(NP k u).mono O_,.inr ⟨by show ¬ (1:Int)=0;decide,m2,pS,.inl ⟨rfl,by rw [<- hd];exact ht,rfl,n2⟩⟩⟩
 rw [if_neg ht];have NA:(c.data no).ts<ts:=by rw [<- hd];omega
 have zdM:=rR (a:=body) kN.body;unfold Ca.z57;rw [hd];generalize NY:xC body (c.data no).body=dl at *;by_cases hfd:(ro.find dl.length).1.2=true
 case neg =>
  rw [if_neg hfd];obtain ⟨f1,f2⟩:=OB (by simpa using hfd);refine ⟨n2.on,by show c2.lg.blocks<=_;rw [n2.lg.blocks];omega,λ_=>by show c2.lg.blocks<=_;rw [n2.lg.blocks];omega,λk u=>(NP k u).mono O_,.inr ⟨by show ¬ (5:Int)=0;decide,?_,pS,.inr (.inl ⟨rfl,NA,?_,f1,n2⟩)⟩⟩
  ·show Vs c2 (ro.find dl.length).2 vs ps;rw [f1];exact m2
  ·rw [NY];exact f2
 rw [if_pos hfd];obtain ⟨f1,f2,f3⟩:=X0 hfd;generalize hfn:ro.find dl.length=fd at *;obtain ⟨⟨u,ok⟩,Xf⟩:=fd;simp only at f1 f2 f3 ⊢;have hu:u<c.zU:=by
  have:=m.cm.len;have:=m.cm.last;rcases f2 with q | q
  ·omega
  ·omega
 have X8:Xf.last<c2.zU:=by
  have h1:(ro.find dl.length).2=Xf:=by rw [hfn]
  rw [n2.zU];have h0:=m.cm.last;have h2:=m.cm.len;unfold Ro.find at h1;split at h1
  ·rw [<- h1];exact h0
  ·split at h1
   ·rename_i i hi;have:=(List.findIdx?_eq_some_iff_getElem.1 hi).1;rw [<- h1];show i<_;omega
   ·rw [<- h1];exact h0
 have m3:=m2.ro f3 X8;have z14:∀ q,Xf.xu q=ro.xu q:=λq=>by unfold Ro.xu;rw [f3]
 obtain ⟨at_,NK⟩:∃ i,xv (Xf.xu u).zt dl.length=some i:=Option.isSome_iff_exists.1 f1;have pl:=wz NK;have hsp:Xf.spot u dl.length=at_:=by unfold Ro.spot;rw [NK];rfl
 rw [hsp];unfold Ca.z56;rw [NY];have Ac:(Ol.of no (c.data no) dl).ok:=⟨by show no<_;omega,kN.ts,kN.pp,by show dl.length<_;omega⟩
 have A:=DU m3 (u:=u) (by rw [n2.zU];exact hu) Ac rfl NK (by rw [n2.lg.fin];omega);have aub:∀ k,c.ub k->(c2.yy Xf (tH u at_ (Ol.of no (c.data no) dl))).2.1.ub (k+2):=λk q=>oY n1 (NP k q) Xf A.fin;generalize hy:c2.yy Xf (tH u at_ (Ol.of no (c.data no) dl))=y at *;have bl2:=n2.lg.blocks;have sz2:=n2.lg.size;have fn2:=n2.lg.fin;have ab:=A.blocks;have af:=A.fin;by_cases JW:y.1=0
 case neg =>
  rw [if_neg JW];refine ⟨n2.on.trans A.on,O_,λ_=>by omega,λk q=>(aub k q).mono O_,.inr ⟨JW,A.vs,λm' hm=>(A.data m' (by rw [n2.zH];exact hm)).trans (pS m' hm),.inr (.inr ?_)⟩⟩;rcases A.res with ⟨q,_⟩ | ⟨_,q | q⟩
  ·exact absurd q JW
  ·omega
  ·exact n2.dk.uh q
 rw [if_pos JW];have ero:y.2.2=Xf.note u ⟨c2.lg.fin,yS (Xf.xu u).zt at_ (Ol.of no (c.data no) dl)⟩:=by
  rcases A.res with ⟨_,q⟩ | ⟨q,_⟩
  ·exact q
  ·exact absurd JW q
 have zdZ:dl.length<=66:=zdM;have ea:(UInt8.ofNat at_).toNat=at_:=UInt8.toNat_ofNat_of_lt' (by simp [UInt8.size];omega);unfold Ca.z55;have yd:y.2.1.data no=c.data no:=(A.data no (by rw [n2.zH];exact hn)).trans (pS no hn);have JX:y.2.1.zH=c.zH:=A.on.zH.trans n2.zH;have xF:y.2.1.zU=c.zU:=A.on.zU.trans n2.zU;have D:=P8 A.vs (no:=no) (ts:=ts) (pp:=u+1) (sl:=UInt8.ofNat at_) (body:=body) (by rw [JX];exact hn) gy O_ hb O_;rw [yd] at D;have dub:∀ k,c.ub k->(y.2.1.yy y.2.2 (vF no ts (u+1) (UInt8.ofNat at_) (xC (c.data no).body body))).2.1.ub (k+3):=λk q=>oY A.vs.cm.sv (aub k q) y.2.2 D.fin;generalize hz:y.2.1.yy y.2.2 (vF no ts (u+1) (UInt8.ofNat at_) (xC (c.data no).body body))=z at *;have on3:=(n2.on.trans A.on).trans D.on;have db:=D.blocks;have df:=D.fin;have Oh:∀ jh,jh<c.zH->(u,at_) ∉ ps jh:=λjh qA hx=>by
  obtain ⟨o',rD⟩:=Zf (m3.chain jh (by rw [n2.zH];exact qA)) _ hx;unfold qj at rD;rw [YB NK] at rD;cases rD
 by_cases cN:z.1=0
 ·rw [if_pos cN];rcases D.res with ⟨r1,r2,r3⟩ | ⟨q,_⟩
  case inr=>exact absurd cN q
  have Jz:∀ m',m'≠no->m'<c.zH->z.2.1.data m'=c.data m':=λm' h1 h2=>(r3 m' h1 (by rw [JX];exact h2)).trans ((A.data m' (by rw [n2.zH];exact h2)).trans (pS m' h2));refine ⟨on3,O_,λ_=>by omega,λk q=>(dub k q).mono O_,.inl ⟨cN,NA,⟨NR ps no ((u,at_) :: ps no),?_⟩,by rw [r2],by rw [r2],Jz,?_,u,at_,Ol.of no (c.data no) dl,c2.lg.fin,hu,rfl,zdZ,by rw [NY];rfl,?_,?_⟩⟩
  ·have zp:z.2.1.zH=c.zH:=D.on.zH.trans JX;refine ⟨by rw [D.eq];exact D.cm,λjh qA=>?_,λjh qA=>?_,λa b ha dN hab x hx=>?_⟩
   ·rw [zp] at qA;rw [D.eq];by_cases e:jh=no
    ·subst e;rw [qF,qF,r2];have hold:=A.vs.chain jh (by rw [JX];exact qA);rw [yd] at hold;have hlen:=A.vs.cm.len;refine ⟨rfl,ea,by rw [hlen,xF];exact hu,⟨Ol.of jh (c.data jh) dl,?_,rfl,NA,?_,rfl⟩,Vz hold rfl rfl rfl rfl⟩
     ·unfold qj;rw [ero,ki (by rw [m3.cm.len,n2.zU];exact hu),if_pos rfl];show w5 (yS (Xf.xu u).zt at_ (Ol.of jh (c.data jh) dl)) at_=_;rw [YA NK rfl,if_pos rfl]
     ·show wD body dl=_;rw [<- NY];exact ay hb kN.body
    ·rw [pI _ _ e,pI _ _ e,Jz jh e qA];have hold:=A.vs.chain jh (by rw [JX];exact qA);rw [(A.data jh (by rw [n2.zH];exact qA)).trans (pS jh qA)] at hold;exact hold
   ·rw [zp] at qA;by_cases e:jh=no
    ·subst e;rw [qF];exact List.nodup_cons.2 ⟨Oh jh qA,m.nd jh qA⟩
    ·rw [pI _ _ e];exact m.nd jh qA
   ·rw [zp] at ha dN;by_cases e1:a=no
    ·subst e1;rw [qF] at hx;rw [pI _ _ (λq=>hab q.symm)];rcases List.mem_cons.1 hx with rfl | hx
     ·exact Oh b dN
     ·exact m.Jx a b ha dN hab x hx
    ·rw [pI _ _ e1] at hx;by_cases e2:b=no
     ·subst e2;rw [qF];intro q;rcases List.mem_cons.1 q with rfl | q
      ·exact Oh a ha hx
      ·exact m.Jx a b ha dN hab x hx q
     ·rw [pI _ _ e2];exact m.Jx a b ha dN hab x hx
  ·rw [D.eq,ero];have h1:=UJ (ro:=Xf) (u:=u) (U:=⟨c2.lg.fin,yS (Xf.xu u).zt at_ (Ol.of no (c.data no) dl)⟩) (by rw [m3.cm.len,n2.zU];exact hu);have h2:=LE NK (o:=Ol.of no (c.data no) dl) rfl;have h3:Xf.jK=ro.jK:=by unfold Ro.jK;rw [f3]
   simp only at h1;omega
  ·rw [<- z14];exact NK
  ·rw [D.eq,ero,<- z14];show Xf.us.set u _=_;rw [f3]
 ·rw [if_neg cN];rcases D.res with ⟨q,_⟩ | ⟨_,r2,r3,r4⟩
  case inl=>exact absurd q cN
  have sy:c.dk.uh z.1:=by
   rcases r4 with q | q
   ·have:=A.on.size;omega
   ·exact (n2.on.trans A.on).dk.uh q
  have r2':Vs z.2.1 z.2.2 vs ps:=by rw [D.eq];exact r2
  have zp:z.2.1.zH=c.zH:=D.on.zH.trans JX;have zu:z.2.1.zU=c.zU:=D.on.zU.trans xF;have F:=VD r2' (u:=u) (sl:=UInt8.ofNat at_) (by rw [zu];exact hu) (λjh qA=>by rw [ea];exact Oh jh (by rw [<- zp];exact qA)) O_;have fb:=F.blocks;refine ⟨on3.trans F.on,by show (z.2.1.pR z.2.2 (u+1) (UInt8.ofNat at_)).2.1.lg.blocks<=_;omega,λfi=>absurd (sy.2 fi) cN,λk q=>(Qu r2'.cm.sv (dub k q) z.2.2 F.fin).mono O_,.inr ⟨cN,F.vs,λm' hm=>?_,.inr (.inr sy)⟩⟩;exact (F.data m' (by rw [zp];exact hm)).trans ((r3 m' (by rw [JX];exact hm)).trans ((A.data m' (by rw [n2.zH];exact hm)).trans (pS m' hm)))
structure PopS (c:Ca) (ro:Ro) (vs:eS) (ps:eY) (no:Nat) (y:Int × Ca × Ro):Prop where
 on:c.on y.2.1
 blocks:y.2.1.lg.blocks<=c.lg.blocks+4
 ub:∀ k,c.ub k->y.2.1.ub (k+4)
 res:(y.1=0/\∃ w l,vs no=w :: l/\(∃ ZG,Vs y.2.1 y.2.2 (NR vs no l) ZG)/\(y.2.1.data no).ts=w.ts/\w.ts<(c.data no).ts/\(y.2.1.data no).body=w.body/\(∀ m,m≠no->m<c.zH->y.2.1.data m=c.data m)/\(c.dk.wG->y.2.2.jK+1=ro.jK)) \/
  (y.1≠0/\Vs y.2.1 y.2.2 vs ps/\(∀ m,m<c.zH->y.2.1.data m=c.data m)/\((y.1=1/\vs no=[]/\y.2.2=ro)\/c.dk.uh y.1))
theorem D3 {c:Ca} {ro:Ro} {vs:eS} {ps:eY} (m:Vs c ro vs ps) {no:Nat} (hn:no<c.zH) (hf:c.lg.fin<999999900000) (T3:c.lg.blocks+6<=c.lg.size):PopS c ro vs ps no (c.lM ro no):=by
 have Oc:=m.cm.sv.ok.zH;have hun:=m.cm.sv.ok.zU;have X7:=m0 m.cm.sv (false,no);have kN:(c.data no).ok:=rZ X7;obtain ⟨n1,n2,n3,n4,n5,n6⟩:=qZ m.cm.sv m.cm.rest hn;have NP:∀ k,c.ub k->(c.yg no).2.ub (k+1):=λk u=>nA m.cm.sv m.cm.rest u hn;have m2:=m.as n2 n1 n3;have pS:∀ m,m<c.zH->(c.yg no).2.data m=c.data m:=λm' hm=>by
  unfold Ca.data;rw [n2.pg (false,m') (fK.2 hm)]
 unfold Ca.lM;generalize hnw:c.yg no=nw at *;obtain ⟨⟨d,e⟩,c2⟩:=nw;simp only at n1 n2 n3 n4 n5 n6 m2 pS NP ⊢;by_cases he:e=0
 case neg =>
  rw [if_neg he];exact ⟨n2.on,by show c2.lg.blocks<=_;rw [n2.lg.blocks];omega,λk u=>(NP k u).mono O_,.inr ⟨he,m2,pS,.inr n4⟩⟩
 rw [if_pos he];have hd:d=c.data no:=n5 he;rw [hd];unfold Ca.z59;have O0:=m2.chain no (by rw [n2.zH];exact hn);rw [pS no hn] at O0;cases hv:vs no with
 | nil =>
  rw [hv] at O0;have UW:(c.data no).pp=0:=by
   cases hq:ps no with
   | nil=>rw [hq] at O0;exact O0
   | cons x q=>rw [hq] at O0;exact O0.elim
  have est:c2.xE no (c.data no)=((Dt.z,1),c2):=by unfold Ca.xE;rw [if_pos UW]
  rw [est,if_neg (show ¬ (1:Int)=0 from D_)];exact ⟨n2.on,by show c2.lg.blocks<=_;rw [n2.lg.blocks];omega,λk u=>(NP k u).mono O_,.inr ⟨by show ¬ (1:Int)=0;decide,m2,pS,.inl ⟨rfl,hv,rfl⟩⟩⟩
 | cons w l =>
  obtain ⟨x,pt,hp⟩:∃ x pt,ps no=x :: pt:=by
   cases hq:ps no with
   | nil=>rw [hv,hq] at O0;exact O0.elim
   | cons x q=>exact ⟨x,q,rfl⟩
  rw [hv,hp] at O0;obtain ⟨h1,h2,h3,⟨o,h4,h5,h6,h7,h8⟩,h9⟩:=O0;have hlen:=m2.cm.len;have JY:x.1<c2.zU:=O_;have wok:w.ok:=by
   obtain ⟨i1,i2⟩:=jw.1 (show w5 (ro.xu x.1).zt x.2=some o from h4);obtain ⟨o1,o2,o3,o4⟩:=(PQ m2.cm JY).zt o (List.mem_of_getElem? i1);rw [h8];refine ⟨by show 0<_;omega,o2,o3,?_⟩;have:=congrArg Prod.snd h7;show w.body.length=64;rw [<- show (wD (c.data no).body o.dl).2=w.body from this];exact oA _ _ _ _ _ kN.body
  obtain ⟨t1,t2,t3,t4,t5⟩:=iT n1 n3 (no:=no) (v:=c.data no) h1 JY;have tub:∀ k,c.ub k->(c2.xE no (c.data no)).2.ub (k+2):=λk u=>az n1 n3 (NP k u) h1 JY;have m3:=m2.as t2 t1 t3;have Oi:∀ m,m<c.zH->(c2.xE no (c.data no)).2.data m=c.data m:=λm' hm=>by
   refine Eq.trans ?_ (pS m' hm);show rq ((c2.xE no (c.data no)).2.pg (false,m'))=rq (c2.pg (false,m'));rw [t2.pg (false,m') (fK.2 (by rw [n2.zH];exact hm))]
  have z5d:(c2.yh (true,x.1)).1.2=0->(c2.xE no (c.data no)).1=(w,0):=λq=>by
   obtain ⟨U,U1,U2⟩:=t5 q;rw [m2.cm.room x.1 JY] at U1;cases U1;rw [U2];unfold o9;rw [h2,show w5 (ro.xu x.1).zt x.2=some o from h4];simp only;rw [if_neg (by rw [h5];simp;exact h6),h7,if_pos rfl,<- h8]
  have bl2:=n2.lg.blocks;have sz2:=n2.lg.size;have fn2:=n2.lg.fin;have bl3:=t2.lg.blocks;have sz3:=t2.lg.size;have fn3:=t2.lg.fin;by_cases hfe:(c2.yh (true,x.1)).1.2=0
  case neg =>
   obtain ⟨s1,s2⟩:=t4 hfe;rw [if_neg s2];exact ⟨(n2.trans t2).on,by show (c2.xE no (c.data no)).2.lg.blocks<=_;omega,λk u=>(tub k u).mono O_,.inr ⟨s2,m3,Oi,.inr (n2.dk.uh s1)⟩⟩
  have e1:=z5d hfe;rw [e1,if_pos rfl];simp only;generalize (c2.xE no (c.data no)).2=c5 at *;have pg5:c5.zH=c.zH:=(n2.trans t2).zH;have un5:c5.zU=c.zU:=(n2.trans t2).zU;unfold Ca.z58;have D:=P8 m3 (no:=no) (ts:=w.ts) (pp:=w.pp) (sl:=w.ps) (body:=w.body) (by rw [pg5];exact hn) wok.ts wok.pp wok.body O_;rw [Oi no hn] at D;have dub:∀ k,c.ub k->(c5.yy ro (vF no w.ts w.pp w.ps (xC (c.data no).body w.body))).2.1.ub (k+3):=λk q=>oY t1 (tub k q) ro D.fin;generalize hz:c5.yy ro (vF no w.ts w.pp w.ps (xC (c.data no).body w.body))=z at *;have on3:=(n2.trans t2).on.trans D.on;have db:=D.blocks;have df:=D.fin;have zp:z.2.1.zH=c.zH:=D.on.zH.trans pg5;have zu:z.2.1.zU=c.zU:=D.on.zU.trans un5;by_cases cN:z.1=0
  case neg =>
   rw [if_neg cN];rcases D.res with ⟨q,_⟩ | ⟨_,r2,r3,r4⟩
   case inl=>exact absurd q cN
   have sy:c.dk.uh z.1:=by
    rcases r4 with q | q
    ·omega
    ·exact (n2.trans t2).dk.uh q
   exact ⟨on3,O_,λk q=>(dub k q).mono O_,.inr ⟨cN,by rw [D.eq];exact r2,λm' hm=>(r3 m' (by rw [pg5];exact hm)).trans (Oi m' hm),.inr sy⟩⟩
  rw [if_pos cN];rcases D.res with ⟨r1,r2,r3⟩ | ⟨q,_⟩
  case inr=>exact absurd cN q
  have Jz:∀ m',m'≠no->m'<c.zH->z.2.1.data m'=c.data m':=λm' h1 h2=>(r3 m' h1 (by rw [pg5];exact h2)).trans (Oi m' h2);have hnd:=m.nd no hn;rw [hp] at hnd;have m4:Vs z.2.1 z.2.2 (NR vs no l) (NR ps no pt):=by
   refine ⟨by rw [D.eq];exact D.cm,λjh qA=>?_,λjh qA=>?_,λa b ha dN hab y hy=>?_⟩
   ·rw [zp] at qA;rw [D.eq];by_cases e:jh=no
    ·subst e;rw [qF,qF,r2];exact Vz h9 rfl rfl rfl rfl
    ·rw [pI _ _ e,pI _ _ e,Jz jh e qA];exact m.chain jh qA
   ·rw [zp] at qA;by_cases e:jh=no
    ·subst e;rw [qF];exact (List.nodup_cons.1 hnd).2
    ·rw [pI _ _ e];exact m.nd jh qA
   ·rw [zp] at ha dN;have sub:∀ a',y∈NR ps no pt a'->y∈ps a':=λa' q=>by
     by_cases e:a'=no
     ·subst e;rw [qF] at q;rw [hp];exact List.mem_cons_of_mem _ q
     ·rw [pI _ _ e] at q;exact q
    intro q;exact m.Jx a b ha dN hab y (sub a hy) (sub b q)
  have hx2:(c.data no).ps.toNat=x.2:=h2;have F:=VD m4 (u:=x.1) (sl:=(c.data no).ps) (by rw [zu,<- n2.zU];exact JY) (λjh qA q=>by
   rw [zp] at qA;rw [hx2] at q;by_cases e:jh=no
   ·subst e;rw [qF] at q;exact (List.nodup_cons.1 hnd).1 q
   ·rw [pI _ _ e] at q;exact m.Jx no jh hn qA (λw=>e w.symm) x (by rw [hp];exact List.mem_cons_self ..) q) O_
  rw [<- h1] at F;have fb:=F.blocks;refine ⟨on3.trans F.on,by show (z.2.1.pR z.2.2 (c.data no).pp (c.data no).ps).2.1.lg.blocks<=_;omega,λk q=>(Qu m4.cm.sv (dub k q) z.2.2 F.fin).mono O_,.inl ⟨rfl,w,l,hv,⟨_,F.vs⟩,?_,?_,?_,λm' h1 h2=>?_,λhfi=>?_⟩⟩
  ·show ((z.2.1.pR z.2.2 (c.data no).pp (c.data no).ps).2.1.data no).ts=_;rw [F.data no (by rw [zp];exact hn),r2]
  ·rw [h8];exact h6
  ·show ((z.2.1.pR z.2.2 (c.data no).pp (c.data no).ps).2.1.data no).body=_;rw [F.data no (by rw [zp];exact hn),r2]
  ·exact (F.data m' (by rw [zp];exact h2)).trans (Jz m' h1 h2)
  ·have M4:=F.ok ⟨o,by
    have:qj z.2.2 x=some o:=by rw [D.eq];exact h4
    rw [hx2];exact this⟩ (on3.dk.wG hfi) (by have:=on3.size;omega)
   have:=M4.2;rw [D.eq] at this;show (z.2.1.pR z.2.2 (c.data no).pp (c.data no).ps).2.2.jK+1=_;rw [D.eq];exact this
section
set_option maxRecDepth 100000
noncomputable section
variable (Q:yO->AH->Prop) (ds:List AD) (n n1 n2:Nat) (x0 x1 x2 x6 x7 x8 x17 x20 x21:V) (a0 a1 a2:V) (h:AH)
def B70:=bd Tryz.f70
def R70:List ResultVar:=[.tmp 4,.tmp 5]
abbrev N70:=16
def K70:KT:=(sQ lF (sQ lF (sQ lF (jN (sQ lF (.two (sQ lF lF [4,5]) lF) [6,7,13]) (sQ lF lF [4,5]) [6]) [6,7]) [0,1,6]) [0,1])
def zaB:Prop:=xG Pg N70 B70 K70 [1,1,1,1] [] (zn Pg R70 Q) [(6,x6)] h
theorem GP:zaB Q x6 h=(
 z0 (z0o h 65 x6) λb c =>
 Q (.ret (V.yX [b,(V.int .i64 0)])) c):=K_
theorem C70 (c :
 z0 (z0D h 65) λb c =>
 z0q 114 [a0,a1,(V.fn (.func 115) [] [b])] c (zS (λd e =>
 z0 (z03 (z0s .neq 36 d (V.int .i64 0) true) e) λf g =>
 zP f (
 Q (.ret (V.yX [(V.y8 none 0),d])) g) (
 z7 (zaB Q b g))) λv h=>Q (.panic v) h)):z0q 70 [a0,a1] h Q :=
 mkC Tryz.func70 B70 N70 K70 R70 c
def LZ:=bd Tryz.f114
def GE:List ResultVar:=[.tmp 6]
abbrev Hi:=34
def KE:KT:=(sQ lF (sQ lF (jN (.one (.loop (jN (jN (.rm [[0,1,2,7,8,17,20]]) (.two lF lF) [0,1,2,7,8,21]) (.one (jN (sQ lF (.two (sQ lF lF [6]) lF) [0,1,2,7,25]) lF [0,1,2,7])) [0,1,2,7]) [0,1,2,7,8])) (sQ lF lF [6]) [8]) [0,1,2,7,8]) [0,1,2])
def FH (p l:List Nat) (e:zJ):Prop:=xG Pg Hi LZ KE p l (zn Pg GE Q) e h
def zbp:Prop:=FH Q h [1,1,0,0,0,1,0,1] [n] [(0,x0),(1,x1),(2,x2),(7,x7)]
def z9P:Prop:=FH Q h [1,1,0,0,0,1] [n] [(0,x0),(1,x1),(2,x2),(7,x7)]
def z6Y:Prop:=FH Q h [1,1,1] [] [(8,x8)]
def zaV:Prop:=FH Q h [1,1,0,0,0,0,1] [n] [(0,x0),(1,x1),(2,x2),(7,x7),(8,x8),(21,x21)]
def Gz3:Prop:=yu Pg Hi LZ KE [1,1,0,0,0,0,0] 2 1 [n] (zn Pg GE Q) [(0,x0),(1,x1),(2,x2),(7,x7),(8,x8),(17,x17),(20,x20)] h
def IN:Prop:=xX Pg Hi LZ KE [1,1,0,0] [] n (zn Pg GE Q) [(0,x0),(1,x1),(2,x2),(7,x7),(8,x8)] h
theorem Du:zbp Q n x0 x1 x2 x7 h=(
 z0 (z0o h 163 x7) λb c =>
 z0q 77 [x0,x1,b] c (zS (λd e =>
 z0 (z03 (zm d 0) e) λf g =>
 z0 (z03 (zm d 1) g) λi j =>
 z0 (z0t j 163 x7 f) λ_ k =>
 z7 (IN Q n x0 x1 x2 x7 i k)) λv h=>Q (.panic v) h)):=K_
theorem G2:z9P Q n x0 x1 x2 x7 h=(
 z0 (z03 (z0e 163 x7 2) h) λb c =>
 z0 (z03 (z0e 58 b 0) c) λd e =>
 z0 (z0o e 41 d) λf g =>
 z0 (z03 (z0s .eql 41 f (V.int .u16 0) true) g) λi j =>
 zP i (
 Q (.ret (V.int .i64 0)) j) (
 z7 (zbp Q n x0 x1 x2 x7 j))):=K_
theorem Da:z6Y Q x8 h=(
 Q (.ret x8) h):=K_
theorem GJ:zaV Q n x0 x1 x2 x7 x8 x21 h=(
 zP x21 (
 z7 (z9P Q n x0 x1 x2 x7 h)) (
 z7 (z6Y Q x8 h))):=K_
theorem R1:Gz3 Q n x0 x1 x2 x7 x8 x17 x20 h=(
 z0 (yc x17 x20 (V.bool false) h) λb c =>
 z7 (zaV Q n x0 x1 x2 x7 x8 b c)):=K_
theorem RG:IN Q (n+1) x0 x1 x2 x7 x8 h=(
 z0 (z03 (z0s .eql 36 x8 (V.int .i64 0) true) h) λb c =>
 vp b true (
 z0 (z0o c 163 x7) λd e =>
 qc Pg x2 [d] e (zS (λf g =>
 z7 (Gz3 Q n x0 x1 x2 x7 x8 b f g)) λv h=>Q (.panic v) h)) (z7 (Gz3 Q n x0 x1 x2 x7 x8 b yw c))):=K_
theorem C114 (c :
 z0q 72 [a0,a1] h (zS (λb c =>
 z0 (z03 (zm b 0) c) λd e =>
 z0 (z03 (zm b 1) e) λf g =>
 z0 (z0D g 163) λi j =>
 z0 (z0t j 163 i d) λ_ k =>
 ∃ n,z7 (IN Q n a0 a1 a2 i f k)) λv h=>Q (.panic v) h)):z0q 114 [a0,a1,a2] h Q :=
 mkC Tryz.func114 LZ Hi KE GE c
def B115:=bd Tryz.f115
def R115:List ResultVar:=[.tmp 3]
abbrev N115:=12
def K115:KT:=(sQ lF (sQ lF (sQ lF lF [3]) []) [1,2])
theorem C115 (c :
 z0 (z0G h 163 a0) λb c =>
 z0 (z0o c 65 a1) λd e =>
 z0 (z03 (z0e 163 b 1) e) λf g =>
 z0 (z0o g 56 f) λi j =>
 z0 (z03 (z0e 163 b 3) j) λk l =>
 z0 (z0o l 73 k) λm o =>
 z0 (z03 (z0y 78 [(0,i),(1,m)]) o) λp q =>
 z0 (yp Pg q 65 1 [(0,p)]) λr s =>
 z0 (z0u s .append [65,65] [d,r]) λt u =>
 z0 (z0t u 65 a1 t) λ_ w =>
 Q (.ret (V.bool true)) w):z0q 115 [a0,a1] h Q :=
 mkC Tryz.func115 B115 N115 K115 R115 c
end
end
end Go.Proofs.YtdbgifdfdhhjcaaGreat.Sh
end
