/- Two operations that may be exchanged. -/
import Derived.Test.YtfopaakmgogpiaaGreatDoorAbsE
import Derived.OrdersIn
set_option linter.unusedVariables false
set_option linter.unusedSimpArgs false
open List renaming getElem?_set_ne→I,getElem?_eq_some_iff→En,set_comm→E7,mem_zipIdx_iff_getElem?→Gl,getElem?_set_self→Gm,all_eq_true→Gx,length_set→If,getElem?_eq_getElem→Iu,ext_getElem?→I9,mem_append→Mu,mem_append_right→Mv,getElem?_eq_none→M1,mem_append_left→M2,pairwise_append→Nr,pairwise_cons→Oe,getElem?_set→Oh,cons_append→Oi,replicate→Sc,mem_range→Sg,mem_cons→Si,map_nil→Sl,Sublist→Sp
open Option renaming some→Eh,getD_some→Ht,map_eq_some_iff→Hv,bind_some→Oj,getD_none→Ok
open Bool renaming and_eq_true→El,true→Eo,false→E5,cond_eq_ite→Gk,false_or→I7,not_true→Od,or_eq_true→R2
open Nat renaming eq_of_beq_eq_true→Ev,blt_eq→E6,blt→Gh,beq→Gp,ble→I6,le_of_ble_eq_true→I8,beq_refl→Og
open Array renaming getD_eq_getD_getElem?→Gc,getElem?_eq_getElem→Gn,getElem?_eq_some_iff→Ip,getElem?_replicate→Ml
open Ne renaming symm→Gi
namespace Go.Abs
section
variable {p:qr}{xc:XC}{h0:Nat}{al:Option (List Nat)}
def Agree (l:List Nat)(e e':Env):Prop:=∀s∈l,ye s e=ye s e'
theorem Agree.app {l l':List Nat}{e e':Env}(h:Agree (l++l') e e'):Agree l e e'∧Agree l' e e':=
 ⟨fun s hs=>h s (M2 _ hs),fun s hs=>h s (Mv _ hs)⟩
theorem zp {e e':Env}{x:qf}(h:Agree (y6 x) e e'):zd e x=zd e' x:=by
 cases x with
 |tmp t=>simp only[zd,h t (by simp[y6])]
 |const v=>rfl
theorem DA {e e':Env}:∀ {l:List qf},Agree (xb l) e e'→fE e l=fE e' l
 | [],_=>rfl
 |x::l,h=>by
  have h':Agree (y6 x++xb l) e e':=by simpa[xb]using h
  simp only[fE,zp h'.app.1,DA h'.app.2]
theorem DB {e e':Env}{x:Option qf}(d n:Nat)(h:Agree (zD x) e e'):eX e d n x=eX e' d n x:=by
 cases x with
 |none=>rfl
 |some x=>simp only[eX,zp (x:=x) h]
theorem Tk {e e':Env}{x:qf}(h:Agree (y6 x) e e'):km e x=km e' x:=by
 cases x with
 |tmp t=>simp only[km,h t (by simp[y6])]
 |const v=>rfl
theorem qlx {e e':Env}:∀ {l:List (Nat×Nat×qf)},Agree (l.flatMap fun p=>y6 p.2.2) e e'→la e l=la e' l
 | [],_=>rfl
 |(i,n,x)::l,h=>by
  have h':Agree (y6 x++l.flatMap fun p=>y6 p.2.2) e e':=by simpa using h
  simp only[la,zp h'.app.1,qlx h'.app.2]
theorem Tl {e e':Env}{sz:Nat}:∀ {l:List (Nat×qf)},Agree (l.flatMap fun p=>y6 p.2) e e'→iF e sz l=iF e' sz l
 | [],_=>rfl
 |(i,x)::l,h=>by
  have h':Agree (y6 x++l.flatMap fun p=>y6 p.2) e e':=by simpa using h
  simp only[iF,zp h'.app.1,Tl h'.app.2]
theorem q4c {e e':Env}{h:j8}{op:qw}(ha:Agree op.reads e e'):za p xc h0 al e h op=za p xc h0 al e' h op:=by
 cases op with
 |move x=>simp only[za,zi,zp (x:=x) ha]
 |take s=>simp only[za,zi,ha s (by simp[qw.reads])]
 |pick c x y=>simp only[qw.reads]at ha;simp only[za,zi,zp ha.app.1.app.1,zp ha.app.1.app.2,zp ha.app.2]
 |build z ps=>simp only[za,zi,qlx (l:=ps) ha]
 |buildSlice sz n z ps=>simp only[za,zi,Tl (l:=ps) ha]
 |nilCheck x=>simp only[za,zi,zp (x:=x) ha]
 |fW n=>rfl
 |dv n s x=>
  simp only[qw.reads]at ha
  have h1:ye s e=ye s e':=ha s (by simp)
  have h2:Agree (y6 x) e e':=fun t ht=>ha t (by simp[ht])
  simp only[za,zi,h1,zp h2]
 |nW n x=>simp only[za,zi,zp (x:=x) ha]
 |eT ag n x=>simp only[za,zi,zp (x:=x) ha]
 |bin op x y=>simp only[qw.reads]at ha;simp only[za,zi,zp ha.app.1,zp ha.app.2]
 |eqs ks n x y=>simp only[qw.reads]at ha;simp only[za,zi,zp ha.app.1,zp ha.app.2]
 |beq n x y=>simp only[qw.reads]at ha;simp only[za,zi,zp ha.app.1,zp ha.app.2]
 |eU k n x=>simp only[za,zi,zp (x:=x) ha]
 |un op x=>simp only[za,zi,zp (x:=x) ha]
 |conv k x=>simp only[za,zi,zp (x:=x) ha]
 |eK x=>simp only[za,zi,zp (x:=x) ha]
 |field ag off n x=>simp only[za,zi,zp (x:=x) ha]
 |index ag l n x i=>simp only[qw.reads]at ha;simp only[za,zi,zp ha.app.1,zp ha.app.2]
 |dO x i=>simp only[qw.reads]at ha;simp only[za,zi,zp ha.app.1,zp ha.app.2]
 |fieldAddr ag off n x=>simp only[za,zi,zp (x:=x) ha]
 |indexAddr sz x i=>simp only[qw.reads]at ha;simp only[za,zi,zp ha.app.1,zp ha.app.2]
 |dP ag l sz x i=>simp only[qw.reads]at ha;simp only[za,zi,zp ha.app.1,zp ha.app.2]
 |slice sz x lo hi=>simp only[qw.reads]at ha;simp only[za,zi,zp ha.app.1.app.1,DB _ _ ha.app.1.app.2,DB _ _ ha.app.2]
 |eo x lo hi=>simp only[qw.reads]at ha;simp only[za,zi,zp ha.app.1.app.1,DB _ _ ha.app.1.app.2,DB _ _ ha.app.2]
 |ep l sz x lo hi=>simp only[qw.reads]at ha;simp only[za,zi,zp ha.app.1.app.1,DB _ _ ha.app.1.app.2,DB _ _ ha.app.2]
 |fX f x y=>simp only[qw.reads]at ha;simp only[za,zi,DA ha.app.1,DA ha.app.2]
 |len k x=>simp only[za,zi,zp (x:=x) ha]
 |append r sz b x y=>
  simp only[qw.reads]at ha
  cases r with
  |none=>simp only[za,zi,zp ha.app.1,zp ha.app.2,Tk ha.app.1]
  |some r=>simp only[za,zk,zp ha.app.1,zp ha.app.2,Tk ha.app.1]
 |gK r sz b x y=>simp only[qw.reads]at ha;simp only[za,zk,zp ha.app.1,zp ha.app.2]
 |ic r sz n z ps=>simp only[za,zk,Tl (l:=ps) ha]
 |bV r sz b z n c=>
  simp only[qw.reads]at ha
  cases r with
  |none=>simp only[za,zi,zp ha.app.1,zp ha.app.2]
  |some r=>simp only[za,zk,zp ha.app.1,zp ha.app.2]
 |mx l=>simp only[za,zi,DA (l:=l) ha]
 |mn l=>simp only[za,zi,DA (l:=l) ha]
 |extract x i=>simp only[za,zi,zp (x:=x) ha]
 |load ag n x=>simp only[za,gZ,zp (x:=x) ha]
 |alloc r z=>rfl
 |fD r t e=>rfl
 |box r n x=>simp only[za,zk,zp (x:=x) ha]
 |b8 off x=>simp only[za,zk,zp (x:=x) ha]
 |store n x y=>simp only[qw.reads]at ha;simp only[za,zk,zp ha.app.1,zp ha.app.2,Tk ha.app.2]
 |dQ r=>rfl
 |cZ r x=>simp only[za,zk,zp (x:=x) ha]
 |call md f l=>simp only[qw.reads]at ha;simp only[za,iH,zp ha.app.1,DA ha.app.2]
 |lookup kd z ok x y=>simp only[qw.reads]at ha;simp only[za,gZ,zp ha.app.1,zp ha.app.2]
 |mapUpdate kd x y z=>simp only[qw.reads]at ha;simp only[za,zk,zp ha.app.1.app.1,zp ha.app.1.app.2,zp ha.app.2]
 |delete kd x y=>simp only[qw.reads]at ha;simp only[za,zk,zp ha.app.1,zp ha.app.2]
 |copy sz x y=>simp only[qw.reads]at ha;simp only[za,zk,zp ha.app.1,zp ha.app.2]
 |eV x=>simp only[za,zk,zp (x:=x) ha]
 |bad=>rfl
def qq.at (r:qq)(h:j8):qq:={ r with heap:=h }
theorem lV {h h':j8}{x:qa}{r:qq}(hs:val h x=Eh r):r.heap=h∧val h' x=Eh (r.at h'):=by
 simp only[val,Eh.injEq]at hs;subst hs;exact⟨rfl,rfl⟩
theorem jgn (h:j8)(x:Option qa):fY h x=(fY [] x).map (·.at h):=by cases x<;>rfl
theorem Tm {α β:Type}(c:Bool)(x y:Option α)(f:α→β):(bif c then x else y).map f=bif c then x.map f else y.map f:=by cases c<;>rfl
theorem qrz (e:Env)(h:j8)(op:qw):zi e h op=(zi e [] op).map (·.at h):=by
 cases op with
 |append r sz b x y=>
  cases r with
  |some r=>rfl
  |none=>
   simp only[zi]
   repeat' split
   all_goals first
    |rfl
    |(simp only[Tm];repeat' split)<;>rfl
 |bV r sz b z n c=>
  cases r with
  |some r=>rfl
  |none=>
   simp only[zi]
   repeat' split
   all_goals first
    |rfl
    |(simp only[Tm];rfl)
 |_=>
  simp only[zi]
  repeat' split
  all_goals first
   |rfl
   |exact jgn _ _
   |(simp only[Tm];first|rfl|(repeat' split)<;>rfl)
theorem qty {e:Env}{h:j8}(h':j8){op:qw}{r:qq}(hs:zi e h op=Eh r):r.heap=h∧zi e h' op=Eh (r.at h'):=by
 rw[qrz]at hs
 obtain⟨r0,h1,rfl⟩:=Hv.1 hs
 refine⟨rfl,?_⟩
 rw[qrz,h1]
 rfl
end
section
variable {p:qr}{xc:XC}{h0:Nat}{al:Option (List Nat)}
def nV:Option qm→Bool
 |some (.vec ..)=>E5
 |some .hole=>E5
 |_=>Eo
theorem F0 {h:j8}{b:Nat}{cs:List (qa×Bool)}(hc:yl h b=Eh cs):nV h[b]?=Eo:=by
 unfold yl at hc
 split at hc
 ·rename_i h1;rw[h1];rfl
 ·cases hc
theorem DC {h:j8}{b:Nat}{x:qm}(hb:y7 h b=Eh x)(hx:nV (Eh x)=Eo):nV h[b]?=Eo:=by
 unfold y7 at hb;rw[hb];exact hx
def Tn:qm→Option Nat
 | .vec sz _ _=>Eh sz
 |_=>none
def HB (h0:Nat)(al:Option (List Nat))(F:j8→Option qq)(h:j8)(r:qq):jr→Nat→Prop
 | .pure,_=>r.heap=h∧∀h',F h'=Eh (r.at h')
 | .read,_=>r.heap=h∧∀h':j8,(∀b,yw h0 al b=Eo→(oO al=Eo→nV h[b]?=Eo)→h'[b]?=h[b]?)→F h'=Eh (r.at h')
 | .alloc,k=>∃x,aI h0 h k x=Eh r.heap∧∀h' h3,aI h0 h' k x=Eh h3→F h'=Eh (r.at h3)
 | .write,_=>∃b x,yw h0 al b=Eo∧nV h[b]?=Eo∧nV (Eh x)=Eo∧yj h b x=Eh r.heap∧∀h' h3:j8,h'[b]?=h[b]?→yj h' b x=Eh h3→F h'=Eh (r.at h3)
 | .take,k=>∃b cs v o,yw h0 al b=Eo∧h[b]?=Eh (.cells cs)∧cs[k]?=Eh (v,o)∧r.heap=h.set b (.cells (cs.set k (v,E5))) ∧
   ∀(h':j8) (dX:List (qa×Bool)),h'[b]?=Eh (.cells dX)→dX[k]?=Eh (v,o)→F h'=Eh (r.at (h'.set b (.cells (dX.set k (v,E5)))))
 | .fe,_=>False
 | .shr,_=>True
 | .nu,k=>∃q x y,(q=h0+k % 1000∧y=.hole∨Tn y=Eh (k / 1000))∧h[q]?=Eh y∧r.heap=h.set q x∧Tn x=Eh (k / 1000)∧∀h':j8,h'[q]?=Eh y→F h'=Eh (r.at (h'.set q x))
theorem F1 {h h':j8}{b:Nat}(hb:h'[b]?=h[b]?):yl h' b=yl h b:=by simp only[yl,hb]
theorem jaf {e:Env}{h:j8}{op:qw}{r:qq}(hs:za p xc h0 al e h op=Eh r):HB h0 al (fun h=>za p xc h0 al e h op) h r op.cl op.cA:=by
 have fK:(∀h,za p xc h0 al e h op=zi e h op)→op.cl=.pure→HB h0 al (fun h=>za p xc h0 al e h op) h r op.cl op.cA:=by
  intro heq du
  rw[du]
  rw[heq]at hs
  exact⟨(qty h hs).1,fun h'=>(heq h').trans (qty h' hs).2⟩
 cases op with
 |load ag n x=>
  simp only[za,gZ]at hs
  split at hs
  ·rename_i b o hv
   cases hk:yw h0 al b with
   |false=>simp[hk]at hs
   |true=>
    simp only[hk,cT]at hs
    split at hs
    ·rename_i cs hcs
     split at hs
     ·rename_i vs My
      have key:r.heap=h∧∀h':j8,yl h' b=yl h b→gZ h0 al e h' (.load ag n x)=Eh (r.at h'):=by
       cases ag with
       |true=>
        simp only[cT]at hs
        refine⟨(lV (h':=h) hs).1,fun h' hb=>?_⟩
        simp only[gZ,hv,hk,cT,hb,hcs,My]
        exact(lV (h':=h') hs).2
       |false=>
        simp only[cond_false]at hs
        split at hs
        ·refine⟨(lV (h':=h) hs).1,fun h' hb=>?_⟩
         simp only[gZ,hv,hk,cT,hb,hcs,My,cond_false]
         exact(lV (h':=h') hs).2
        ·cases hs
      exact⟨key.1,fun h' cL=>key.2 h' (F1 (cL b hk fun _=>F0 hcs))⟩
     ·cases hs
    ·cases hs
  ·rename_i v hv
   cases hk:(Bool.xor ag v.isAgg||!(Gp v.flat.length n))with
   |true=>simp[hk]at hs
   |false=>
    simp only[hk,cond_false]at hs
    refine⟨(lV (h':=h) hs).1,fun h' _=>?_⟩
    simp only[za,gZ,hv,hk,cond_false]
    exact(lV (h':=h') hs).2
  ·rename_i b bu q hv
   cases hk:ug h0 al b with
   |false=>simp[hk]at hs
   |true=>
    simp only[hk,cT]at hs
    have gS:=hk
    simp only[ug,El,Bool.not_eq_true']at gS
    split at hs
    ·rename_i sz dc xs gf
     have iX:∀h':j8,(∀b,yw h0 al b=Eo→(oO al=Eo→nV h[b]?=Eo)→h'[b]?=h[b]?)→y7 h' b=Eh (.vec sz dc xs):=fun h' cL=>by
      unfold y7 at gf ⊢;rw[cL b gS.1 (fun ho=>by rw[gS.2]at ho;cases ho),gf]
     cases cV:(Gp bu dc&&I6 (q+n) (xs.flatMap qa.flat).length)with
     |false=>rw[cV]at hs;cases hs
     |true=>
      rw[cV]at hs
      simp only[cT]at hs
      cases ag with
      |true=>
       simp only[cT]at hs
       refine⟨(lV (h':=h) hs).1,fun h' cL=>?_⟩
       simp only[za,gZ,hv,hk,cT,iX h' cL,cV]
       exact(lV (h':=h') hs).2
      |false=>
       simp only[cond_false]at hs
       split at hs
       ·rename_i z hz
        refine⟨(lV (h':=h) hs).1,fun h' cL=>?_⟩
        simp only[za,gZ,hv,hk,cT,iX h' cL,cV,cond_false,hz]
        exact(lV (h':=h') hs).2
       ·cases hs
    ·cases hs
  ·cases hs
 |len k x=>exact fK (fun _=>rfl) rfl
 |alloc rk z=>
  simp only[za,zk]at hs
  cases hk:z.all ze with
  |false=>simp[hk]at hs
  |true=>
   simp only[hk,cT]at hs
   split at hs
   ·rename_i h' hn
    have h1:=zx hs
    refine⟨_,by rw[h1];exact hn,fun g g3 hg=>?_⟩
    simp only[za,zk,hk,cT]
    rw[show qw.cA (.alloc rk z)=rk from rfl]at hg
    rw[hg,h1];rfl
   ·cases hs
 |box rk n x=>
  simp only[za,zk]at hs
  split at hs
  ·rename_i v hv
   cases hk:(Gp v.flat.length n&&v.flat.all ze)with
   |false=>simp[hk]at hs
   |true=>
    simp only[hk,cT]at hs
    split at hs
    ·rename_i h' hn
     have h1:=zx hs
     refine⟨_,by rw[h1];exact hn,fun g g3 hg=>?_⟩
     simp only[za,zk,hv,hk,cT]
     rw[show qw.cA (.box rk n x)=rk from rfl]at hg
     rw[hg,h1];rfl
    ·cases hs
  ·cases hs
 |fD rk t e'=>
  simp only[za,zk]at hs
  split at hs
  ·rename_i h' hn
   have h1:=zx hs
   refine⟨_,by rw[h1];exact hn,fun g g3 hg=>?_⟩
   simp only[za,zk]
   rw[show qw.cA (.fD rk t e')=rk from rfl]at hg
   rw[hg,h1];rfl
  ·cases hs
 |dQ rk=>
  simp only[za,zk]at hs
  split at hs
  ·rename_i h' hn
   have h1:=zx hs
   refine⟨_,by rw[h1];exact hn,fun g g3 hg=>?_⟩
   simp only[za,zk]
   rw[show qw.cA (.dQ rk)=rk from rfl]at hg
   rw[hg,h1];rfl
  ·cases hs
 |cZ rk x=>
  simp only[za,zk]at hs
  split at hs
  ·rename_i s hv
   split at hs
   ·rename_i h' hn
    have h1:=zx hs
    refine⟨_,by rw[h1];exact hn,fun g g3 hg=>?_⟩
    simp only[za,zk,hv]
    rw[show qw.cA (.cZ rk x)=rk from rfl]at hg
    rw[hg,h1];rfl
   ·cases hs
  ·cases hs
 |b8 off x=>
  simp only[za,zk]at hs
  split at hs
  ·rename_i b o hv
   cases hk:yw h0 al b&&uh off o with
   |false=>simp[hk]at hs
   |true=>
    simp only[hk,cT]at hs
    have eC:yw h0 al b=Eo:=by simp only[El]at hk;exact hk.1
    split at hs
    ·rename_i cs hcs
     split at hs
     ·rename_i v ow hq
      split at hs
      ·rename_i h' bh
       cases hs
       have nD:=bh
       unfold yj at nD
       cases aY:Gh b h.length with
       |false=>simp[aY]at nD
       |true=>
        simp only[aY,cT,Eh.injEq]at nD
        cases off with
        |none=>
         refine⟨b,_,eC,F0 hcs,rfl,bh,fun g g3 hb hg=>?_⟩
         simp only[za,zk,hv,hk,cT,F1 hb,hcs,hq,hg]
         rfl
        |some k=>
         have hko:k=o:=by
          simp only[El,uh]at hk;exact Ev hk.2
         subst hko
         have hhb:h[b]?=Eh (.cells cs):=by
          unfold yl at hcs
          split at hcs
          ·rename_i dX h';cases hcs;exact h'
          ·cases hcs
         refine⟨b,cs,v,ow,eC,hhb,hq,nD.symm,fun g dX hg dB=>?_⟩
         have dB:dX[k]?=Eh (v,ow):=dB
         have hlg:b<g.length:=(En.1 hg).1
         have kU:yl g b=Eh dX:=by simp only[yl,hg]
         have hsg:yj g b (.cells (dX.set k (v,E5)))=Eh (g.set b (.cells (dX.set k (v,E5)))):=by
          unfold yj;rw[E6.mpr hlg];rfl
         simp only[za,zk,hv,hk,cT,kU,dB,hsg]
         rfl
      ·cases hs
     ·cases hs
    ·cases hs
  ·cases hs
 |store n x y=>
  simp only[za,zk]at hs
  split at hs
  ·rename_i b o v hv hy
   cases hk:yw h0 al b with
   |false=>simp[hk]at hs
   |true=>
    simp only[hk,cT]at hs
    split at hs
    ·rename_i cs hcs
     split at hs
     ·rename_i t ht
      cases cV:(Gp n 1&&v.cu&&Gh o cs.length)with
      |false=>simp[cV]at hs
      |true=>
       simp only[cV,cT]at hs
       split at hs
       ·rename_i h' bh
        cases hs
        refine⟨b,_,hk,F0 hcs,rfl,bh,fun g g3 hb hg=>?_⟩
        simp only[za,zk,hv,hy,hk,cT,F1 hb,hcs,ht,cV,hg]
        rfl
       ·cases hs
     ·rename_i ht
      cases cV:Gp v.flat.length n with
      |false=>simp[cV]at hs
      |true=>
       simp only[cV,cT]at hs
       split at hs
       ·rename_i dX bO
        split at hs
        ·rename_i h' bh
         have h1:=zx hs
         refine⟨b,_,hk,F0 hcs,rfl,by rw[h1];exact bh,fun g g3 hb hg=>?_⟩
         simp only[za,zk,hv,hy,hk,cT,F1 hb,hcs,ht,cV,bO,hg,h1]
         rfl
        ·cases hs
       ·cases hs
    ·cases hs
  ·cases hs
 |call md f l=>
  cases md with
  |shr=>trivial
  |red=>trivial
  |fe rk=>
   simp only[za,iH]at hs
   split at hs
   ·rename_i k first captured vs e1 e2
    cases hb:(first++vs++captured).isEmpty with
    |false=>
     rw[hb]at hs
     simp only[cond_false]at hs
     cases ly:zw 0 (first++vs++captured)with
     |false=>rw[ly]at hs;cases hs
     |true=>
      rw[ly]at hs
      simp only[cT]at hs
      split at hs
      ·rename_i v o qI
       have goal:∃x,aI h0 h rk x=Eh r.heap∧∀g g3,aI h0 g rk x=Eh g3→pH h0 g rk v o=Eh (r.at g3):=by
        unfold pH at hs
        split at hs
        ·split at hs
         ·rename_i h' hn
          have h1:=zx hs
          refine⟨_,by rw[h1];exact hn,fun g g3 hg=>?_⟩
          simp only[pH,hg,h1];rfl
         ·cases hs
        ·rename_i sz xs
         cases FH:(xs.flatMap qa.flat).all nj with
         |false=>rw[FH]at hs;cases hs
         |true=>
          rw[FH]at hs
          simp only[cT]at hs
          split at hs
          ·rename_i h' hn
           have h1:=zx hs
           refine⟨_,by rw[h1];exact hn,fun g g3 hg=>?_⟩
           simp only[pH,FH,cT,hg,h1];rfl
          ·cases hs
        ·cases hs
       obtain⟨x,g1,g2⟩:=goal
       refine⟨x,g1,fun g g3 hg=>?_⟩
       simp only[za,iH,e1,e2,qI]
       rw[hb,ly]
       exact g2 g g3 hg
      ·cases hs
    |true=>
     rw[hb]at hs
     simp only[cT]at hs
     split at hs
     ·rename_i es hm
      split at hs
      ·rename_i h' hn
       have h1:=zx hs
       refine⟨_,by rw[h1];exact hn,fun g g3 hg=>?_⟩
       simp only[za,iH,e1,e2,hm]
       rw[hb]
       simp only[cT]
       rw[show qw.cA (.call (.fe rk) f l)=rk from rfl]at hg
       rw[hg,h1];rfl
      ·cases hs
     ·cases hs
   ·cases hs
   ·cases hs
  |bL=>
   simp only[za,iH]at hs
   split at hs
   ·rename_i k first captured vs e1 e2
    cases hb:zw 0 (first++vs++captured)with
    |false=>rw[hb]at hs;cases hs
    |true=>
     rw[hb]at hs
     simp only[cT]at hs
     split at hs
     ·rename_i v o qI
      cases hs
      refine⟨rfl,fun h'=>?_⟩
      simp only[za,iH,e1,e2,qI]
      rw[hb]
      rfl
     ·cases hs
   ·cases hs
   ·cases hs
 |append rk sz b x y=>
  cases rk with
  |none=>exact fK (fun _=>rfl) rfl
  |some rk=>
   simp only[za,zk]at hs
   split at hs
   ·rename_i cK vy e1 e2
    cases fG:((km e x).isSome&&Gp sz cK)with
    |false=>simp[fG]at hs
    |true=>
     simp only[fG,cT]at hs
     split at hs
     ·rename_i ys cy
      cases cV:(I6 ys.length 1073741824&&I6 b 4096&&Gh 0 sz)with
      |false=>simp[cV]at hs
      |true=>
       simp only[cV,cT]at hs
       split at hs
       ·rename_i h' hn
        cases hs
        refine⟨_,hn,fun g g3 hg=>?_⟩
        simp only[za,zk,e1,e2,fG,cy,cV,cT]
        rw[show qw.cA (.append (Eh rk) sz b x y)=rk from rfl]at hg
        rw[hg];rfl
       ·cases hs
     ·cases hs
   ·cases hs
 |gK rk sz bt x y=>
  simp only[za,zk]at hs
  split at hs
  ·rename_i SP vy e1 e2
   split at hs
   ·rename_i ys cy
    cases hk:(I6 ys.length 1073741824&&I6 bt 4096&&Gh 0 sz&&!ys.isEmpty&&zw 0 ys&&Gh rk 1000)with
    |false=>rw[hk]at hs;cases hs
    |true=>
     rw[hk]at hs
     simp only[cT]at hs
     split at hs
     ·rename_i h' cQ
      obtain rfl:=zx hs
      obtain⟨i1,i2⟩:=lu cQ
      have hrk:rk<1000:=by simp only[El]at hk;exact E6.mp hk.2
      have m1:(rk+1000*sz) % 1000=rk:=by omega
      have m2:(rk+1000*sz) / 1000=sz:=by omega
      refine⟨h0+rk,.vec sz 0 ys,.hole,.inl ⟨by show _=h0+(rk+1000*sz) % 1000;rw[m1],rfl⟩,i1,i2,by show Eh sz=Eh ((rk+1000*sz) / 1000);rw[m2],fun g hg=>?_⟩
      simp only[za,zk,e1,e2,cy,hk,cT,aI,hg]
      rfl
     ·cases hs
   ·cases hs
  ·rename_i b bu len vy e1 e2
   split at hs
   ·rename_i cK dc xs gf
    split at hs
    ·rename_i ys cy
     cases hk:(Gp bu dc&&Gp sz cK&&I6 len xs.length&&I6 (len+ys.length) 1073741824&&I6 bt 4096&&Gh 0 sz&&zw 0 ys&&Gh rk 1000)with
     |false=>rw[hk]at hs;cases hs
     |true=>
      rw[hk]at hs
      simp only[cT]at hs
      split at hs
      ·rename_i h' bh
       obtain rfl:=zx hs
       have eC:=hk
       simp only[El]at eC
       obtain⟨⟨⟨⟨⟨⟨⟨_,k2⟩,_⟩,_⟩,_⟩,_⟩,_⟩,k8⟩:=eC
       have cD:=Ev k2
       have hrk:rk<1000:=E6.mp k8
       have m2:(rk+1000*sz) / 1000=sz:=by omega
       have aY:b<h.length:=by unfold y7 at gf;exact(En.1 gf).1
       have hh:h'=h.set b (.vec sz (bu+1) (xs.take len++ys)):=by
        unfold yj at bh
        rw[E6.mpr aY]at bh
        simpa using bh.symm
       refine⟨b,.vec sz (bu+1) (xs.take len++ys),.vec cK dc xs,.inr (by show Eh cK=Eh ((rk+1000*sz) / 1000);rw[m2,cD]),gf,hh,by show Eh sz=Eh ((rk+1000*sz) / 1000);rw[m2],fun g hg=>?_⟩
       have iX:y7 g b=Eh (.vec cK dc xs):=hg
       have vL:b<g.length:=(En.1 hg).1
       simp only[za,zk,e1,e2,iX,cy,hk,cT,yj,E6.mpr vL]
       rfl
      ·cases hs
    ·cases hs
   ·cases hs
  ·cases hs
 |ic rk sz n z ps=>trivial
 |bV rk sz b z n c=>
  cases rk with
  |none=>exact fK (fun _=>rfl) rfl
  |some rk=>
   simp only[za,zk]at hs
   split at hs
   ·rename_i n' c' e1 e2
    cases hk:(Gp n' c'&&I6 n' 1073741824&&I6 b 4096&&Gp z.length sz&&Gh 0 sz&&z.all ze)with
    |false=>simp[hk]at hs
    |true=>
     simp only[hk,cT]at hs
     split at hs
     ·rename_i h' hn
      have h1:=zx hs
      refine⟨_,by rw[h1];exact hn,fun g g3 hg=>?_⟩
      simp only[za,zk,e1,e2,hk,cT]
      rw[show qw.cA (.bV (Eh rk) sz b z n c)=rk from rfl]at hg
      rw[hg,h1];rfl
     ·cases hs
   ·cases hs
 |lookup kd z ok x y=>
  simp only[za,gZ]at hs
  split at hs
  ·rename_i b kv e1 e2
   cases hk:yw h0 al b with
   |false=>simp[hk]at hs
   |true=>
    simp only[hk,cT]at hs
    split at hs
    ·rename_i es hb
     have iX:∀h':j8,(∀b,yw h0 al b=Eo→(oO al=Eo→nV h[b]?=Eo)→h'[b]?=h[b]?)→y7 h' b=Eh (.map es):=fun h' cL=>by
      have Tp:=DC hb rfl
      unfold y7 at hb ⊢;rw[cL b hk fun _=>Tp,hb]
     split at hs
     ·rename_i i v hf
      refine⟨(lV (h':=h) hs).1,fun h' cL=>?_⟩
      simp only[za,gZ,e1,e2,hk,cT,iX h' cL,hf]
      exact(lV (h':=h') hs).2
     ·rename_i hf
      refine⟨(lV (h':=h) hs).1,fun h' cL=>?_⟩
      simp only[za,gZ,e1,e2,hk,cT,iX h' cL,hf]
      exact(lV (h':=h') hs).2
     ·cases hs
    ·cases hs
  ·rename_i kv e1 e2
   refine⟨(lV (h':=h) hs).1,fun h' cL=>?_⟩
   simp only[za,gZ,e1,e2]
   exact(lV (h':=h') hs).2
  ·cases hs
 |mapUpdate kd x y z=>
  simp only[za,zk]at hs
  split at hs
  ·rename_i b kv v e1 e2 e3
   cases hk:yw h0 al b with
   |false=>simp[hk]at hs
   |true=>
    simp only[hk,cT]at hs
    split at hs
    ·rename_i es hb
     have iX:∀h':j8,h'[b]?=h[b]?→y7 h' b=Eh (.map es):=fun h' cL=>by
      unfold y7 at hb ⊢;rw[cL,hb]
     split at hs
     ·rename_i i u hf
      split at hs
      ·rename_i h' bh
       have h1:=zx hs
       refine⟨b,_,hk,DC hb rfl,rfl,by rw[h1];exact bh,fun g g3 eZ hg=>?_⟩
       simp only[za,zk,e1,e2,e3,hk,cT,iX g eZ,hf,hg,h1]
       rfl
      ·cases hs
     ·rename_i hf
      cases hl:I6 es.length 1073741824 with
      |false=>simp[hl]at hs
      |true=>
       simp only[hl,cT]at hs
       split at hs
       ·rename_i h' bh
        have h1:=zx hs
        refine⟨b,_,hk,DC hb rfl,rfl,by rw[h1];exact bh,fun g g3 eZ hg=>?_⟩
        simp only[za,zk,e1,e2,e3,hk,cT,iX g eZ,hf,hl,hg,h1]
        rfl
       ·cases hs
     ·cases hs
    ·cases hs
  ·cases hs
 |delete kd x y=>
  simp only[za,zk]at hs
  split at hs
  ·rename_i b kv e1 e2
   cases hk:yw h0 al b with
   |false=>simp[hk]at hs
   |true=>
    simp only[hk,cT]at hs
    split at hs
    ·rename_i es hb
     have iX:∀h':j8,h'[b]?=h[b]?→y7 h' b=Eh (.map es):=fun h' cL=>by
      unfold y7 at hb ⊢;rw[cL,hb]
     split at hs
     ·rename_i rr hf
      split at hs
      ·rename_i h' bh
       have h1:=zx hs
       refine⟨b,_,hk,DC hb rfl,rfl,by rw[h1];exact bh,fun g g3 eZ hg=>?_⟩
       simp only[za,zk,e1,e2,hk,cT,iX g eZ,hf,hg,h1]
       rfl
      ·cases hs
     ·cases hs
    ·cases hs
  ·cases hs
 |copy sz x y=>
  simp only[za,zk]at hs
  split at hs
  ·rename_i b o len vy e1 e2
   cases hk:yw h0 al b with
   |false=>simp[hk]at hs
   |true=>
    simp only[hk,cT]at hs
    split at hs
    ·rename_i cs hcs
     split at hs
     ·rename_i n us cy
      split at hs
      ·rename_i dX bO
       cases cV:Gp us.length (n*sz)with
       |false=>simp[cV]at hs
       |true=>
        simp only[cV,cT]at hs
        split at hs
        ·rename_i h' bh
         have h1:=zx hs
         refine⟨b,_,hk,F0 hcs,rfl,by rw[h1];exact bh,fun g g3 hb hg=>?_⟩
         simp only[za,zk,e1,e2,hk,cT,F1 hb,hcs,cy,bO,cV,hg,h1]
         rfl
        ·cases hs
      ·cases hs
     ·cases hs
    ·cases hs
  ·cases hs
 |eV x=>
  simp only[za,zk]at hs
  split at hs
  ·rename_i b hv
   cases hk:yw h0 al b with
   |false=>simp[hk]at hs
   |true=>
    simp only[hk,cT]at hs
    split at hs
    ·rename_i s pos hb
     have aY:b<h.length:=by unfold y7 at hb;exact(En.1 hb).1
     cases hp:Gh pos s.length with
     |true=>
      simp only[hp,cT]at hs
      split at hs
      ·rename_i h' bh
       have h1:=zx hs
       refine⟨b,_,hk,DC hb rfl,rfl,by rw[h1];exact bh,fun g g3 eZ hg=>?_⟩
       have iX:y7 g b=Eh (.iter s pos):=by unfold y7 at hb ⊢;rw[eZ,hb]
       simp only[za,zk,hv,hk,cT,iX,hp,hg,h1]
       rfl
      ·cases hs
     |false=>
      simp only[hp,cond_false]at hs
      have h1:=zx hs
      have F2:h.set b (.iter s pos)=h:=by
       unfold y7 at hb
       apply I9
       intro k
       rw[Oh]
       split
       ·rename_i hbk;subst hbk;first|exact hb.symm|rw[if_pos aY,hb]
       ·rfl
      refine⟨b,.iter s pos,hk,DC hb rfl,rfl,by rw[h1];unfold yj;rw[E6.mpr aY];simp[F2],fun g g3 eZ hg=>?_⟩
      have iX:y7 g b=Eh (.iter s pos):=by unfold y7 at hb ⊢;rw[eZ,hb]
      have vL:b<g.length:=by unfold y7 at iX;exact(En.1 iX).1
      have Ai:g3=g:=by
       unfold yj at hg
       rw[E6.mpr vL]at hg
       simp only[cT,Eh.injEq]at hg
       rw[←hg]
       unfold y7 at iX
       apply I9
       intro k
       rw[Oh]
       split
       ·rename_i hbk;subst hbk;first|exact iX.symm|rw[if_pos vL,iX]
       ·rfl
      simp only[za,zk,hv,hk,cT,iX,hp,cond_false,h1,Ai]
      rfl
    ·cases hs
  ·cases hs
 |_=>exact fK (fun _=>rfl) rfl
theorem xr {h h':j8}{b:Nat}{x:qm}(hs:yj h b x=Eh h'):b<h.length∧h'=h.set b x:=by
 unfold yj at hs
 cases hb:Gh b h.length with
 |false=>simp[hb]at hs
 |true=>exact⟨E6.mp hb,by simpa[hb]using hs.symm⟩
theorem Aj {h:j8}{b:Nat}{x:qm}(hb:b<h.length):yj h b x=Eh (h.set b x):=by
 unfold yj
 rw[E6.mpr hb];rfl
theorem DE {h:j8}{k:Nat}{x:qm}(hh:h[h0+k]?=Eh .hole):aI h0 h k x=Eh (h.set (h0+k) x):=by
 unfold aI;rw[hh]
theorem DF {b k:Nat}(h:yw h0 al b=Eo)(hk:mE al k=E5):b≠h0+k:=by
 intro hb
 subst hb
 cases al with
 |none=>simp[mE]at hk
 |some l=>
  simp only[yw,mE]at h hk
  have h1:Gh (h0+k) h0=E5:=by
   cases hh:Gh (h0+k) h0 with
   |false=>rfl
   |true=>have:=E6.mp hh;omega
  cases he:nY l with
  |false=>
   rw[he]at h hk
   simp only[cond_false]at h hk
   rw[h1,I7,show h0+k-h0=k from by omega,hk]at h
   cases h
  |true=>
   rw[he]at h hk
   simp only[cT]at h hk
   cases l with
   |nil=>cases he
   |cons x l=>
    simp only[zm]at h
    cases hx:Gh x 2000 with
    |true=>rw[hx]at h;simp only[cT,h1,Bool.and_false]at h;cases h
    |false=>
     rw[hx]at h
     simp only[cond_false]at h
     cases hx4:Gh x 4000 with
     |false=>rw[hx4]at h;simp only[cond_false,h1]at h;cases h
     |true=>
      rw[hx4]at h
      simp only[cT]at h
      have h2:=Ev h
      have h3:¬x<2000:=fun hh=>by rw[E6.mpr hh]at hx;cases hx
      have h4:x=2000+k:=by omega
      rw[show(x::l).headD 0=x from rfl,h4,Og]at hk
      cases hk
theorem qqh {l:List Nat}{x:Nat}(h:(!(l.contains x))=Eo):l.contains x=E5:=by
 cases hc:l.contains x with
 |false=>rfl
 |true=>rw[hc]at h;cases h
theorem Tq {Ts Tt:Option (List Nat)}{b b':Nat}(h:Dn Ts Tt=Eo)(h1:yw h0 Ts b=Eo)(h2:yw h0 Tt b'=Eo):b≠b':=by
 intro hb
 subst hb
 cases Ts with
 |none=>cases h
 |some l=>
  cases Tt with
  |none=>cases h
  |some m=>
   simp only[Dn,yw]at h h1 h2
   have inv:∀ {k:List Nat},nY k=Eo→Gh (k.headD 0) 4000=Eo→zm h0 k b=Eo→(1000≤k.headD 0)∧((k.headD 0<2000∧b=k.headD 0-1000∧b<h0)∨(2000≤k.headD 0∧b=h0+(k.headD 0-2000))):=by
    intro k he h4 hq
    cases k with
    |nil=>cases he
    |cons x k=>
     refine⟨I8 he,?_⟩
     simp only[zm]at hq
     cases hx:Gh x 2000 with
     |true=>
      rw[hx]at hq
      simp only[cT,El]at hq
      exact .inl ⟨E6.mp hx,Ev hq.1,E6.mp hq.2⟩
     |false=>
      rw[hx,show Gh x 4000=Eo from h4]at hq
      simp only[cond_false,cT]at hq
      have h3:¬x<2000:=fun hh=>by rw[E6.mpr hh]at hx;cases hx
      exact .inr ⟨by show 2000≤x;omega,Ev hq⟩
   have old:∀ {k:List Nat} {r:Nat},b=h0+r→k.contains r=E5→(Gh b h0||k.contains (b-h0))=Eo→False:=by
    intro k r hM hc hq
    have h3:Gh b h0=E5:=by
     cases hh:Gh b h0 with
     |false=>rfl
     |true=>have:=E6.mp hh;omega
    rw[h3,I7,show b-h0=r by omega,hc]at hq
    cases hq
   cases hl:nY l with
   |true=>
    rw[hl]at h h1
    simp only[cT]at h h1
    cases hm:nY m with
    |true=>
     rw[hm]at h h2
     simp only[cT,El]at h h2
     obtain⟨i1,i2⟩:=inv hl h.1.2 h1
     obtain⟨i3,i4⟩:=inv hm h.2 h2
     have br:l.headD 0≠m.headD 0:=fun e=>by rw[e,Og]at h;exact absurd h.1.1 (by simp)
     omega
    |false=>
     rw[hm]at h h2
     simp only[cond_false,El]at h h2
     obtain⟨i1,i2⟩:=inv hl h.1.2 h1
     have h3:=I8 h.1.1
     exact old (by omega) (qqh h.2) h2
   |false=>
    rw[hl]at h h1
    simp only[cond_false,El]at h h1
    obtain⟨⟨⟨h3,h4⟩,h6⟩,h5⟩:=h
    rw[h3]at h2
    simp only[cT]at h2
    obtain⟨i3,i4⟩:=inv h3 h6 h2
    have h4:=I8 h4
    exact old (by omega) (qqh h5) h1
theorem Tv {F:j8→Option qq}{h:j8}{r:qq}{k:Nat}(H:HB h0 al F h r .take k):HB h0 al F h r .write k:=by
 obtain⟨b,cs,v,o,hb,hc,hv,hs,h4⟩:=H
 have aY:b<h.length:=(En.1 hc).1
 refine⟨b,.cells (cs.set k (v,E5)),hb,by rw[hc];rfl,rfl,by rw[hs];exact Aj aY,fun h' h3 hh bh=>?_⟩
 rw[h4 h' cs (by rw[hh];exact hc) hv]
 obtain⟨_,s2⟩:=xr bh
 rw[s2]
theorem jiz {ca cb:jr}{ka kb:Nat}{oW oX:Option (List Nat)}{Fa Fb:j8→Option qq}{h:j8}{ra rb:qq}(xt:Fb h=Eh rb)(F3:Fa rb.heap=Eh ra)(Hb:HB h0 oX Fb h rb cb kb)(Ha:HB h0 oW Fa rb.heap ra ca ka)
  (dA:cb=.read∨cb=.write∨cb=.take) (dL:ca=.read∨ca=.write∨ca=.take) (qK:Dn oX oW=Eo):
  ∃h1,Fa h=Eh (ra.at h1)∧Fb h1=Eh (rb.at ra.heap):=by
 have hat:∀r:qq,r.at r.heap=r:=fun _=>rfl
 have wb:(cb=.read∧HB h0 oX Fb h rb .read kb)∨HB h0 oX Fb h rb .write kb:=by
  rcases dA with rfl|rfl|rfl
  ·exact .inl ⟨rfl,Hb⟩
  ·exact .inr Hb
  ·exact .inr (Tv Hb)
 have wa:(ca=.read∧HB h0 oW Fa rb.heap ra .read ka)∨HB h0 oW Fa rb.heap ra .write ka:=by
  rcases dL with rfl|rfl|rfl
  ·exact .inl ⟨rfl,Ha⟩
  ·exact .inr Ha
  ·exact .inr (Tv Ha)
 rcases wb with⟨_,h1,h2⟩|⟨b,x,hb,_,_,hs,h2⟩
 ·rcases wa with⟨_,h3,h4⟩|⟨b',y,eZ,_,_,gB,h4⟩
  ·exact⟨h,h4 h (fun b _ _=>by rw[h1]),by rw[h3,hat];exact xt⟩
  ·rw[h1]at gB
   obtain⟨s1,s2⟩:=xr gB
   refine⟨ra.heap,by rw[hat,←F3,h1],h2 _ (fun b hb _=>?_)⟩
   rw[s2,I (Gi (Tq qK hb eZ))]
 ·obtain⟨s1,s2⟩:=xr hs
  rcases wa with⟨_,h3,h4⟩|⟨b',y,eZ,_,_,gB,h4⟩
  ·refine⟨h,h4 h (fun b' eZ _=>?_),by rw[h3,hat];exact xt⟩
   rw[s2,I (Tq qK hb eZ)]
  ·obtain⟨s3,s4⟩:=xr gB
   have br:=Tq qK hb eZ
   rw[s2,If]at s3
   refine⟨h.set b' y,h4 _ _ (by rw[s2,I br]) (Aj s3),h2 _ _ (by rw[I (Gi br)]) ?_⟩
   rw[Aj (by rw[If];exact s1),s4,s2,E7 _ _ (Gi br)]
def MJ (ca cb:jr)(ka kb:Nat)(oW oX:Option (List Nat)):Prop:=
 (cb=.nu∧ca=.nu∧kb % 1000≠ka % 1000∧kb / 1000≠ka / 1000)∨(cb=.nu∧(ca=.read∨ca=.write∨ca=.take)∧oO oW=Eo)∨((cb=.read∨cb=.write∨cb=.take)∧ca=.nu∧oO oX=Eo)
theorem jpe {ca cb:jr}{ka kb:Nat}{oW oX:Option (List Nat)}{Fa Fb:j8→Option qq}{h:j8}{ra rb:qq}(xt:Fb h=Eh rb)(F3:Fa rb.heap=Eh ra)(Hb:HB h0 oX Fb h rb cb kb)(Ha:HB h0 oW Fa rb.heap ra ca ka)
  (dh:MJ ca cb ka kb oW oX):∃h1,Fa h=Eh (ra.at h1)∧Fb h1=Eh (rb.at ra.heap):=by
 have hat:∀r:qq,r.at r.heap=r:=fun _=>rfl
 have F4:∀ {c:jr} {k:Nat} {al:Option (List Nat)} {F:j8→Option qq} {g:j8} {r:qq},HB h0 al F g r c k→(c=.read∨c=.write∨c=.take)→HB h0 al F g r .read k∨HB h0 al F g r .write k:=by
  intro c k al F g r H hc
  rcases hc with rfl|rfl|rfl
  ·exact .inl H
  ·exact .inr H
  ·exact .inr (Tv H)
 have nvs:∀ {x:qm} {z:Nat},Tn x=Eh z→nV (Eh x)=E5:=fun {x z} h=>by cases x<;>first|rfl|cases h
 rcases dh with⟨rfl,rfl,n1,n2⟩|⟨rfl,dL,hs⟩|⟨dA,rfl,hs⟩
 ·obtain⟨q,x,y,hq,hy,hh,hx,hF⟩:=Hb
  obtain⟨q',x',y',MD,pS,Tw,eM,hF'⟩:=Ha
  have aY:q<h.length:=(En.1 hy).1
  have br:q≠q':=by
   intro he
   subst he
   rw[hh,Gm aY]at pS
   cases pS
   rcases MD with⟨_,rfl⟩|h4
   ·cases hx
   ·rw[hx]at h4;exact n2 (Eh.inj h4)
  rw[hh,I br]at pS
  refine⟨h.set q' x',hF' h pS,?_⟩
  rw[hF _ (by rw[I (Gi br)];exact hy),Tw,hh,E7 _ _ br]
 ·obtain⟨q,x,y,hq,hy,hh,hx,hF⟩:=Hb
  have aY:q<h.length:=(En.1 hy).1
  -- the box that the append wrote is a vector now
  have cQ:nV rb.heap[q]?=E5:=by rw[hh,Gm aY];exact nvs hx
  rcases F4 Ha dL with⟨h3,h4⟩|⟨b,z,hb,hn,Tx,hz,h4⟩
  ·refine⟨h,h4 h (fun b hb hn=>?_),by rw[h3,hat];exact xt⟩
   have br:b≠q:=fun e=>by subst e;rw[hn hs]at cQ;cases cQ
   rw[hh,I (Gi br)]
  ·have br:b≠q:=fun e=>by subst e;rw[hn]at cQ;cases cQ
   obtain⟨s1,s2⟩:=xr hz
   rw[hh,If]at s1
   refine⟨h.set b z,h4 _ _ (by rw[hh,I (Gi br)]) (Aj s1),?_⟩
   rw[hF _ (by rw[I br];exact hy),s2,hh,E7 _ _ br]
 ·obtain⟨q,x,y,hq,hy,hh,hx,hF⟩:=Ha
  have hold:nV (Eh y)=E5:=by
   rcases hq with⟨_,rfl⟩|h1
   ·rfl
   ·exact nvs h1
  rcases F4 Hb dA with⟨h3,h4⟩|⟨b,z,hb,hn,Tx,hz,h4⟩
  ·rw[h3]at hy hh
   refine⟨h.set q x,hF h hy,?_⟩
   rw[h4 (h.set q x) (fun b hb hn=>by
    have br:b≠q:=fun e=>by subst e;rw[hy]at hn;rw[hold]at hn;exact absurd (hn hs) (by simp)
    rw[I (Gi br)]),hh]
  ·obtain⟨s1,s2⟩:=xr hz
   have br:b≠q:=by
    intro e
    subst e
    rw[s2,Gm s1]at hy
    rw[Eh.inj hy,hold]at Tx
    cases Tx
   rw[s2,I br]at hy
   refine⟨h.set q x,hF h hy,h4 _ _ (by rw[I (Gi br)]) ?_⟩
   rw[Aj (by rw[If];exact s1),hh,s2,E7 _ _ (Gi br)]
theorem jms {ca cb:jr}{ka kb:Nat}{oW oX:Option (List Nat)}{Fa Fb:j8→Option qq}{h:j8}{ra rb:qq}(xt:Fb h=Eh rb)(F3:Fa rb.heap=Eh ra)(Hb:HB h0 oX Fb h rb cb kb)(Ha:HB h0 oW Fa rb.heap ra ca ka)
  (dh:cb=.pure∨ca=.pure∨(cb=.read∧ca=.read)∨(cb=.alloc∧ca=.alloc∧kb≠ka)∨(cb=.alloc∧(ca=.read∨ca=.write∨ca=.take)∧mE oW kb=E5)∨((cb=.read∨cb=.write∨cb=.take)∧ca=.alloc∧mE oX ka=E5)∨(cb=.take∧ca=.take∧kb≠ka)):
  ∃h1,Fa h=Eh (ra.at h1)∧Fb h1=Eh (rb.at ra.heap):=by
 have hat:∀r:qq,r.at r.heap=r:=fun _=>rfl
 rcases dh with rfl|rfl|⟨rfl,rfl⟩|⟨rfl,rfl,br⟩|⟨rfl,dL,od⟩|⟨dA,rfl,od⟩|⟨rfl,rfl,br⟩
 ·obtain⟨h1,h2⟩:=Hb
  exact⟨ra.heap,by rw[hat,←F3,h1],h2 _⟩
 ·obtain⟨h1,h2⟩:=Ha
  exact⟨h,h2 _,by rw[h1,hat];exact xt⟩
 ·obtain⟨h1,h2⟩:=Hb
  obtain⟨h3,h4⟩:=Ha
  exact⟨h,h4 h (fun b _ _=>by rw[h1]),by rw[h3,hat];exact xt⟩
 ·obtain⟨x,n1,n2⟩:=Hb
  obtain⟨y,n3,n4⟩:=Ha
  obtain⟨i1,i2⟩:=lu n1
  obtain⟨i3,i4⟩:=lu n3
  rw[i2,I (by omega)]at i3
  refine⟨h.set (h0+ka) y,n4 _ _ (DE i3),n2 _ _ ?_⟩
  rw[DE (by rw[I (by omega)];exact i1),i4,i2,E7 _ _ (by omega)]
 ·obtain⟨x,n1,n2⟩:=Hb
  obtain⟨i1,i2⟩:=lu n1
  rcases dL with rfl|rfl|rfl
  ·obtain⟨h3,h4⟩:=Ha
   refine⟨h,h4 h (fun b hb _=>?_),by rw[h3,hat];exact xt⟩
   rw[i2,I (Gi (DF hb od))]
  ·obtain⟨b,y,hb,_,_,hs,h4⟩:=Ha
   obtain⟨s1,s2⟩:=xr hs
   have br:=DF hb od
   rw[i2,If]at s1
   refine⟨h.set b y,h4 _ _ (by rw[i2,I (Gi br)]) (Aj s1),n2 _ _ ?_⟩
   rw[DE (by rw[I br];exact i1),s2,i2,E7 _ _ br]
  ·obtain⟨b,cs,v,o,hb,hc,hv,hs,h4⟩:=Ha
   have br:=DF hb od
   rw[i2,I (Gi br)]at hc
   refine⟨_,h4 _ _ hc hv,n2 _ _ ?_⟩
   rw[DE (by rw[I br];exact i1),hs,i2,E7 _ _ br]
 ·obtain⟨y,n3,n4⟩:=Ha
  obtain⟨i3,i4⟩:=lu n3
  rcases dA with rfl|rfl|rfl
  ·obtain⟨h1,h2⟩:=Hb
   refine⟨ra.heap,by rw[hat,←F3,h1],h2 _ (fun b hb _=>?_)⟩
   rw[i4,h1,I (Gi (DF hb od))]
  ·obtain⟨b,x,hb,_,_,hs,h2⟩:=Hb
   obtain⟨s1,s2⟩:=xr hs
   have br:=DF hb od
   rw[s2,I br]at i3
   refine⟨h.set (h0+ka) y,n4 _ _ (DE i3),h2 _ _ (by rw[I (Gi br)]) ?_⟩
   rw[Aj (by rw[If];exact s1),i4,s2,E7 _ _ (Gi br)]
  ·obtain⟨b,cs,v,o,hb,hc,hv,hs,h2⟩:=Hb
   have br:=DF hb od
   rw[hs,I br]at i3
   refine⟨h.set (h0+ka) y,n4 _ _ (DE i3),?_⟩
   rw[h2 _ cs (by rw[I (Gi br)];exact hc) hv,i4,hs,E7 _ _ (Gi br)]
 ·obtain⟨b,cs,v,o,hb,hc,hv,hs,h2⟩:=Hb
  obtain⟨b',dX,v',o',eZ,dB,Ak,gB,h4⟩:=Ha
  have aY:b<h.length:=(En.1 hc).1
  by_cases DG:b'=b
  ·subst DG
   rw[hs,Gm aY]at dB
   cases dB
   rw[I br]at Ak
   refine⟨h.set b' (.cells (cs.set ka (v',E5))),h4 h cs hc Ak,?_⟩
   rw[h2 _ (cs.set ka (v',E5)) (by rw[Gm aY]) (by rw[I (Gi br)];exact hv),gB,hs]
   simp only[List.set_set]
   rw[E7 _ _ br]
  ·rw[hs,I (Gi DG)]at dB
   refine⟨h.set b' (.cells (dX.set ka (v',E5))),h4 h dX dB Ak,?_⟩
   rw[h2 _ cs (by rw[I DG];exact hc) hv,gB,hs,E7 _ _ DG]
end
section
variable {p:qr}{xc:XC}{h0:Nat}
def lC (p:qr)(xc:XC)(h0:Nat)(o:qv)(e:Env)(h:j8):Option qq:=
 match mg e o.guard with
 |some Eo=>za p xc h0 o.al e h o.op
 |some E5=>Eh ⟨.undef,E5,none,h⟩
 |none=>none
def oY (o:qv)(e:Env)(r:qq):Env:=np (gy e r.strip) o.dst r.v r.own
theorem DH (o:qv)(st:qh):iI p xc h0 o st=(lC p xc h0 o st.env st.heap).map fun r=>⟨oY o st.env r,r.heap⟩:=by
 unfold iI lC
 cases hg:mg st.env o.guard with
 |none=>rfl
 |some b=>
  cases b with
  |false=>rfl
  |true=>
   simp only[]
   cases za p xc h0 o.al st.env st.heap o.op<;>rfl
theorem q0a {e e':Env}{g:Option (Nat×Bool)}(h:Agree (match g with|some g=>[g.1]|none=>[]) e e'):mg e g=mg e' g:=by
 cases g with
 |none=>rfl
 |some g=>simp only[mg,h g.1 (by simp)]
theorem Ty {o:qv}{e e':Env}{h:j8}(ha:Agree o.reads e e'):lC p xc h0 o e h=lC p xc h0 o e' h:=by
 have h1:Agree o.op.reads e e':=(Agree.app ha).1
 have h2:=(Agree.app ha).2
 simp only[lC,q0a h2,q4c h1]
theorem q4n {h0 r:Nat}{h:j8}{v:qa}{o:Bool}{res:qq}(hs:pH h0 h r v o=Eh res):res.strip=none:=by
 unfold pH at hs
 simp only[Gk,val]at hs
 repeat' split at hs
 all_goals first
  |(cases hs;done)
  |(cases hs;rfl)
theorem q0c {al:Option (List Nat)}{e:Env}{h:j8}{op:qw}{r:qq}(hs:za p xc h0 al e h op=Eh r){s:Nat}(hr:r.strip=Eh s):s∈op.fh:=by
 have own:∀ {x:qf},km e x=Eh s→s∈y6 x:=by
  intro x h
  obtain⟨rfl,_⟩:=Fi h
  simp[y6]
 have nE:∀ {x:qa},val h x=Eh r→False:=fun hv=>by rw[zx hv]at hr;cases hr
 have Al:∀ {x:Option qa},fY h x=Eh r→False:=fun hv=>by obtain⟨_,_,h1⟩:=uy hv;rw[h1]at hr;cases hr
 cases op with
 |take t=>
  simp only[za,zi]at hs
  split at hs
  ·cases hs;simp at hr;simp[qw.fh,hr]
  ·cases hs
 |append rk sz b x y=>
  cases rk with
  |some rk=>
   simp only[za,zk,Gk]at hs
   repeat' split at hs
   all_goals first
    |(cases hs;done)
    |(cases hs;exact own hr)
  |none=>
   simp only[za,zi,Gk]at hs
   repeat' split at hs
   all_goals first
    |(cases hs;done)
    |(cases hs;exact own hr)
 |store n x y=>
  simp only[za,zk,Gk]at hs
  repeat' split at hs
  all_goals first
   |(cases hs;done)
   |exact(nE hs).elim
   |(rename_i ht _ _ _ _;cases hs;simp only[Eh.injEq]at hr;subst hr;exact own ht)
   |(unfold val at hs;cases hs;cases hr;done)
   |skip
 |bV rk sz b z n c=>
  cases rk with
  |some rk=>
   simp only[za,zk,Gk]at hs
   repeat' split at hs
   all_goals first
    |(cases hs;done)
    |exact(nE hs).elim
    |(unfold val at hs;cases hs;cases hr;done)
  |none=>
   simp only[za,zi,Gk]at hs
   repeat' split at hs
   all_goals first
    |(cases hs;done)
    |(cases hs;cases hr;done)
 |call md f l=>
  cases md<;>simp only[za,iH,Gk]at hs
  all_goals
   repeat' split at hs
  all_goals first
   |(cases hs;done)
   |exact(nE hs).elim
   |(cases hs;cases hr;done)
   |(rw[q4n hs]at hr;cases hr;done)
 |_=>
  simp only[za,zi,gZ,zk,Gk]at hs
  repeat' split at hs
  all_goals first
   |(cases hs;done)
   |exact(nE hs).elim
   |exact(Al hs).elim
   |(cases hs;cases hr;done)
   |(unfold val at hs;cases hs;cases hr;done)
theorem qvi {o:qv}{e:Env}{h:j8}{r:qq}(hs:lC p xc h0 o e h=Eh r){s:Nat}(hr:r.strip=Eh s):s∈o.op.fh:=by
 unfold lC at hs
 split at hs
 ·exact q0c hs hr
 ·cases hs;cases hr
 ·cases hs
theorem DI {s:Nat}{x:qa×Bool}{e:Env}:ye s ((s,x)::e)=Eh x:=by
 simp only[ye,Og,cT]
theorem MK {s t:Nat}{x:qa×Bool}{e:Env}(h:s≠t):ye s ((t,x)::e)=ye s e:=by
 have:Gp t s=E5:=by
  cases hb:Gp t s with
  |false=>rfl
  |true=>exact absurd (Ev hb).symm h
 simp only[ye,this,cond_false]
theorem Tz {s:Nat}{e:Env}{x:Option Nat}(h:∀t,x=Eh t→s≠t):ye s (gy e x)=ye s e:=by
 cases x with
 |none=>rfl
 |some t=>
  simp only[gy]
  split
  ·exact MK (h t rfl)
  ·rfl
theorem qud {s:Nat}{e e':Env}{x:Option Nat}(h:ye s e=ye s e'):ye s (gy e x)=ye s (gy e' x):=by
 cases x with
 |none=>exact h
 |some t=>
  by_cases bO:s=t
  ·subst bO
   simp only[gy]
   rw[←h]
   cases hl:ye s e with
   |none=>simp only[];rw[hl,←h,hl]
   |some y=>simp only[];rw[DI,DI]
  ·rw[Tz (fun u hu=>by cases hu;exact bO),Tz (fun u hu=>by cases hu;exact bO)]
   exact h
theorem TA {s:Nat}{e:Env}{d:Option Nat}{v:qa}{o:Bool}(h:∀t,d=Eh t→s≠t):ye s (np e d v o)=ye s e:=by
 cases d with
 |none=>rfl
 |some t=>exact MK (h t rfl)
theorem qyt {s:Nat}{e e':Env}{d:Option Nat}{v:qa}{o:Bool}(h:ye s e=ye s e'):ye s (np e d v o)=ye s (np e' d v o):=by
 cases d with
 |none=>exact h
 |some t=>
  by_cases bO:s=t
  ·subst bO;simp only[np];rw[DI,DI]
  ·rw[TA (fun u hu=>by cases hu;exact bO),TA (fun u hu=>by cases hu;exact bO)];exact h
theorem TB {o:qv}{s:Nat}{e e':Env}{r:qq}(h:ye s e=ye s e'):ye s (oY o e r)=ye s (oY o e' r):=qyt (qud h)
theorem DJ {o:qv}{s:Nat}{e:Env}{r:qq}(hr:∀t,r.strip=Eh t→t∈o.op.fh)(h:s ∉ o.writes):ye s (oY o e r)=ye s e:=by
 unfold oY
 rw[TA,Tz]
 ·intro t ht bO
  exact h (Mv _ (bO▸hr t ht))
 ·intro t ht bO
  exact h (M2 _ (by rw[ht,bO];simp))
theorem jbt {o:qv}{e:Env}{r:qq}{h:j8}:oY o e (r.at h)=oY o e r:=rfl
def iY (a b:qh):Prop:=a.heap=b.heap∧∀s,ye s a.env=ye s b.env
theorem iY.refl (a:qh):iY a a:=⟨rfl,fun _=>rfl⟩
theorem iY.trans {a b c:qh}(h:iY a b)(k:iY b c):iY a c:=⟨h.1.trans k.1,fun s=>(h.2 s).trans (k.2 s)⟩
theorem qzd {o:qv}{a b a':qh}(h:iY a b)(hs:iI p xc h0 o a=Eh a'):∃b',iI p xc h0 o b=Eh b'∧iY a' b':=by
 rw[DH]at hs
 obtain⟨r,hr,rfl⟩:=Hv.1 hs
 rw[Ty (e':=b.env) (fun s _=>h.2 s),h.1]at hr
 refine⟨⟨oY o b.env r,r.heap⟩,by rw[DH,hr];rfl,rfl,fun s=>TB (h.2 s)⟩
theorem qxl:∀ {l:List qv} {a b a':qh},iY a b→fF p xc h0 l a=Eh a'→∃b',fF p xc h0 l b=Eh b'∧iY a' b'
 | [],a,b,a',h,hs=>by simp only[fF,Eh.injEq]at hs ⊢;subst hs;exact⟨b,rfl,h⟩
 |o::l,a,b,a',h,hs=>by
  simp only[fF]at hs
  split at hs
  ·rename_i a1 h1
   obtain⟨b1,k1,k2⟩:=qzd h h1
   obtain⟨b',k3,k4⟩:=qxl k2 hs
   exact⟨b',by simp only[fF,k1,k3],k4⟩
  ·cases hs
theorem jbc {o:qv}{e:Env}{h:j8}{r:qq}(hs:lC p xc h0 o e h=Eh r):∃c k,HB h0 o.al (lC p xc h0 o e) h r c k∧(c=.pure∨(c=o.op.cl∧k=o.op.cA)):=by
 unfold lC at hs
 cases hg:mg e o.guard with
 |none=>rw[hg]at hs;cases hs
 |some b=>
  cases b with
  |false=>
   rw[hg]at hs
   cases hs
   exact⟨.pure,0,⟨rfl,fun h'=>by simp only[lC,hg];rfl⟩,.inl rfl⟩
  |true=>
   rw[hg]at hs
   have:=jaf hs
   have heq:(fun h=>za p xc h0 o.al e h o.op)=lC p xc h0 o e:=by
    funext h;simp only[lC,hg]
   rw[heq]at this
   exact⟨_,_,this,.inr ⟨rfl,rfl⟩⟩
theorem q7w {a b:qv}(h:R3 a b=Eo):a.op.cl=.pure∨b.op.cl=.pure∨a.op.cl=.fe∨b.op.cl=.fe∨(a.op.cl=.read∧b.op.cl=.read)∨(a.op.cl=.alloc∧b.op.cl=.alloc∧a.op.cA≠b.op.cA) ∨
  (a.op.cl=.alloc∧(b.op.cl=.read∨b.op.cl=.write∨b.op.cl=.take)∧mE b.al a.op.cA=E5)∨((a.op.cl=.read∨a.op.cl=.write∨a.op.cl=.take)∧b.op.cl=.alloc∧mE a.al b.op.cA=E5)∨(a.op.cl=.take∧b.op.cl=.take∧a.op.cA≠b.op.cA)∨((a.op.cl=.read∨a.op.cl=.write∨a.op.cl=.take)∧(b.op.cl=.read∨b.op.cl=.write∨b.op.cl=.take)∧Dn a.al b.al=Eo)∨MJ b.op.cl a.op.cl b.op.cA a.op.cA b.al a.al:=by
 unfold R3 at h
 rw[R2]at h
 rcases h with h|h
 ·simp only[El]at h
  obtain⟨⟨h1,h2⟩,h3⟩:=h
  have hb:∀ {c:jr},c.box=Eo→c=.read∨c=.write∨c=.take:=fun {c} hc=>by cases c<;>first|(cases hc;done)|simp
  simp only[hb h1,hb h2,h3,and_self,or_true,true_or]
 unfold MJ
 cases ha:a.op.cl<;>cases hb:b.op.cl<;>simp_all
theorem TC {a b:List Nat}(h:E1 a b=Eo){s:Nat}(hs:s∈a):s ∉ b:=by
 unfold E1 at h
 rw[Gx]at h
 have:=h s hs
 simpa using this
theorem zhr {a b:qv}{st s1 s2:qh}(hm:zE b a=Eo)(h1:iI p xc h0 b st=Eh s1)(h2:iI p xc h0 a s1=Eh s2):
  ∃t1 t2,iI p xc h0 a st=Eh t1∧iI p xc h0 b t1=Eh t2∧iY s2 t2:=by
 rw[DH]at h1
 obtain⟨rb,hb,rfl⟩:=Hv.1 h1
 rw[DH]at h2
 obtain⟨ra,ha,rfl⟩:=Hv.1 h2
 simp only[zE,El]at hm
 obtain⟨⟨⟨hc,d1⟩,d2⟩,d3⟩:=hm
 have sb:∀t,rb.strip=Eh t→t∈b.op.fh:=fun t ht=>qvi hb ht
 have sa:∀t,ra.strip=Eh t→t∈a.op.fh:=fun t ht=>qvi ha ht
 -- the later one reads nothing that the earlier one writes
 have ML:lC p xc h0 a st.env rb.heap=Eh ra:=by
  rw[←ha]
  refine Ty fun s hs=>(DJ sb ?_).symm
  exact fun hw=>TC d1 hw hs
 obtain⟨cb,kb,Hb,ob⟩:=jbc hb
 obtain⟨ca,ka,Ha,oa⟩:=jbc ML
 have qK:((cb=.read∨cb=.write∨cb=.take)∧(ca=.read∨ca=.write∨ca=.take)∧Dn b.al a.al=Eo)∨(cb=.pure∨ca=.pure∨(cb=.read∧ca=.read)∨(cb=.alloc∧ca=.alloc∧kb≠ka)∨(cb=.alloc∧(ca=.read∨ca=.write∨ca=.take)∧mE a.al kb=E5)∨((cb=.read∨cb=.write∨cb=.take)∧ca=.alloc∧mE b.al ka=E5)∨(cb=.take∧ca=.take∧kb≠ka))∨MJ ca cb ka kb a.al b.al:=by
  rcases ob with rfl|⟨rfl,rfl⟩
  ·exact .inr (.inl (.inl rfl))
  rcases oa with rfl|⟨rfl,rfl⟩
  ·exact .inr (.inl (.inr (.inl rfl)))
  rcases q7w hc with h|h|h|h|h|h|h|h|h|h|h
  ·exact .inr (.inl (.inl h))
  ·exact .inr (.inl (.inr (.inl h)))
  ·rw[h]at Hb;exact Hb.elim
  ·rw[h]at Ha;exact Ha.elim
  ·exact .inr (.inl (.inr (.inr (.inl h))))
  ·exact .inr (.inl (.inr (.inr (.inr (.inl h)))))
  ·exact .inr (.inl (.inr (.inr (.inr (.inr (.inl h))))))
  ·exact .inr (.inl (.inr (.inr (.inr (.inr (.inr (.inl h)))))))
  ·exact .inr (.inl (.inr (.inr (.inr (.inr (.inr (.inr h)))))))
  ·exact .inl h
  ·exact .inr (.inr h)
 have hsw:∃h1,lC p xc h0 a st.env st.heap=Eh (ra.at h1)∧lC p xc h0 b st.env h1=Eh (rb.at ra.heap):=by
  rcases qK with⟨q1,q2,q3⟩|dh|dh
  ·exact jiz hb ML Hb Ha q1 q2 q3
  ·exact jms hb ML Hb Ha dh
  ·exact jpe hb ML Hb Ha dh
 obtain⟨h3,k1,k2⟩:=hsw
 have k2':lC p xc h0 b (oY a st.env (ra.at h3)) h3=Eh (rb.at ra.heap):=by
  rw[←k2]
  refine Ty fun s hs=>DJ (fun t ht=>sa t ht) ?_
  exact fun hw=>TC d3 hw hs
 refine⟨⟨oY a st.env (ra.at h3),h3⟩,⟨oY b (oY a st.env (ra.at h3)) (rb.at ra.heap),ra.heap⟩,by rw[DH,k1];rfl,by rw[DH];simp only[k2'];rfl,rfl,fun s=>?_⟩
 simp only[jbt]
 by_cases hw:s∈a.writes
 ·have Dz:s ∉ b.writes:=fun h=>TC d2 h hw
  rw[DJ sb Dz]
  exact TB (DJ sb Dz)
 ·rw[DJ sa hw]
  exact TB (DJ sa hw).symm
theorem qvb:∀ {l1 l2:List qv} {a:qv} {st s2:qh},(∀b∈l1,zE b a=Eo)→fF p xc h0 (l1++a::l2) st=Eh s2 →
  ∃t1 t2,iI p xc h0 a st=Eh t1∧fF p xc h0 (l1++l2) t1=Eh t2∧iY s2 t2
 | [],l2,a,st,s2,_,hs=>by
  simp only[List.nil_append,fF]at hs
  split at hs
  ·rename_i t1 h1;exact⟨t1,s2,h1,hs,iY.refl _⟩
  ·cases hs
 |b::l1,l2,a,st,s2,hm,hs=>by
  simp only[Oi,fF]at hs
  split at hs
  ·rename_i s h1
   obtain⟨u1,u2,h2,h3,h4⟩:=qvb (fun c hc=>hm c (by simp[hc])) hs
   obtain⟨t1,t2,h5,h6,h7⟩:=zhr (hm b (by simp)) h1 h2
   obtain⟨u3,h8,h9⟩:=qxl h7 h3
   exact⟨t1,u3,h5,by simp only[Oi,fF,h6,h8],h4.trans h9⟩
  ·cases hs
end
def cX (P:Program)(w0:World)(C0 C:ax)(nt:Nat)(st:qh)(a:Act)(w:World):Prop:=
 a.tmps.size=nt∧∃C' ω',C.le C'∧Marks C' w0.heap.size a.defers∧av P C' ω' w0 C0 st.heap w∧ai C' ω' w w0.heap.size st.env a.tmps
structure jt (P:Program)(nt:Nat)(ops:Array Oper)(o:Oper)(ao:qv):Prop where
 op:∃h md r,(cx P h md r o.dst o.op).getD .bad=ao.op
 guard:Dl ops o.guard=Eh ao.guard
 dst:ao.dst=ao.op.xa o.dst
 fits:∀d,o.dst=Eh d→d<nt
 vfits:∀d,ao.op.gM=Eh d→d<nt
 F5:∀d,ao.op.gM=Eh d→o.dst=none∧o.guard=none
section
variable {P:Program}{p:qr}{xc:XC}{C C0:ax}{w0:World}{nt h0:Nat}{ops:Array Oper}{ρ:Option Nat}
theorem cX.eqv {st bK:qh}{a:Act}{w:World}(h:cX P w0 C0 C nt st a w)(he:iY st bK):cX P w0 C0 C nt bK a w:=by
 obtain⟨h1,C',ω',h3,h2,h4,h5⟩:=h
 exact⟨h1,C',ω',h3,h2,he.1▸h4,fun s x hx=>h5 s x (by rw[he.2 s];exact hx)⟩
theorem ai.putAt {ω:Nat→Option Loc}{w:World}{B d:Nat}{e:Env}{tmps:Array Value}{v:qa}{u:Value}{o:Bool}(he:ai C ω w B e tmps)(hd:d<tmps.size)(hr:bC C v u)(ho:o=Eo→aC C ω w B (.slot d) v u):ai C ω w B ((d,v,o)::e) (tmps.setIfInBounds d u):=by
 intro s x hx
 by_cases TD:s=d
 ·subst TD
  rw[DI]at hx
  cases hx
  exact⟨u,by simp[hd],hr,ho⟩
 ·rw[MK TD]at hx
  obtain⟨y,h1,h2,h3⟩:=he s x hx
  exact⟨y,by rw[Array.getElem?_setIfInBounds_ne (Gi TD)];exact h1,h2,h3⟩
theorem ja8 {ao:qv}{st:qh}{a:Act}{w:World}{C1:ax}{ω1:Nat→Option Loc}{e:Env}{h:j8}{v:qa}{u:Value}{own:Bool}{o:Oper}(hd:ao.dst=o.dst)(hf:∀d,o.dst=Eh d→d<nt)(hs:a.tmps.size=nt)(kC:Marks C1 w0.heap.size a.defers)(hle:C.le C1)(m:av P C1 ω1 w0 C0 h w)(he:ai C1 ω1 w w0.heap.size e a.tmps)(hr:bC C1 v u)(ho:own=Eo→aC C1 ω1 w w0.heap.size (.slot (o.dst.getD 0)) v u):
  cX P w0 C0 C nt ⟨np e ao.dst v own,h⟩ (a.put o.dst u) w:=by
 rw[hd]
 cases MN:o.dst with
 |none=>exact⟨hs,C1,ω1,hle,kC,m,he⟩
 |some d=>
  rw[MN]at ho
  refine⟨by simpa[Act.put]using hs,C1,ω1,hle,kC,m,?_⟩
  exact he.putAt (hs▸hf d MN) hr ho
theorem qzw {o:Oper}{ao:qv}{e:Env}{tmps:Array Value}{ω:Nat→Option Loc}{w:World}{B:Nat}{b:Bool}(he:ai C ω w B e tmps)(hg:Dl ops o.guard=Eh ao.guard)(hb:mg e ao.guard=Eh b):Region.wanted o (yielded ops tmps)=b:=by
 unfold Region.wanted
 cases hog:o.guard with
 |none=>
  rw[hog]at hg
  simp only[Dl,Eh.injEq]at hg
  rw[←hg]at hb
  simp only[mg,Eh.injEq]at hb
  exact hb
 |some g=>
  obtain⟨j,want⟩:=g
  rw[hog]at hg
  simp only[Dl]at hg
  split at hg
  ·rename_i d hd
   have hgd:=Eh.inj hg
   rw[←hgd]at hb
   simp only[mg]at hb
   split at hb
   ·rename_i c ow hl
    cases hb
    obtain⟨v,h1,h2,_⟩:=he d _ hl
    have:=h2.cS
    subst this
    simp only[yielded,hd,Oj,h1]
    cases c<;>cases want<;>rfl
   ·rename_i ow hl
    cases hb
    obtain⟨v,h1,h2,_⟩:=he d _ hl
    have hv:v=.tuple #[]:=by cases h2;rfl
    subst hv
    simp only[yielded,hd,Oj,h1]
    rfl
   ·cases hb
  ·cases hg
theorem q5i {h:qb}{md:jc}{r:Nat}{d:Option Nat}{op:Op}{n s:Nat}{y:qf}(F6:∀t x z,op≠.store t x z):(cx P h md r d op).getD .bad≠.dv n s y:=by
 intro hc
 cases kD:cx P h md r d op with
 |none=>rw[kD]at hc;cases hc
 |some a=>
  rw[kD]at hc
  simp only[Ht]at hc
  subst hc
  cases op<;>simp only[cx,cond_eq_ite]at kD<;>(try exact F6 _ _ _ rfl)<;>(repeat' split at kD)<;>(try split at kD)<;>(try contradiction)<;>(try simp at kD)<;>(try (split at kD<;>simp at kD))<;>(try (unfold Ma at kD; (repeat' split at kD)<;>simp at kD))<;>(try (simp only[R1,Dj]at kD; (repeat' split at kD)<;>simp at kD))<;>(try (simp only[zC]at kD; (repeat' split at kD)<;>(try contradiction)<;>(try simp at kD)<;>(try (split at kD<;>simp at kD))))
theorem q58 (dV:qx P p)(hx:cg P xc){i:Nat}{o:Oper}{ao:qv}{st bK:qh}{a:Act}{w:World}{Q:Exit→Act→World→Prop}{K:Act→World→Prop}(hi:ops[i]?=Eh o)(hr:jt P nt ops o ao)(hs:iI p xc h0 ao st=Eh bK)(bO:cX P w0 C0 C nt st a w)
  (hK:∀a' w',cX P w0 C0 C nt bK a' w'→K a' w'):wpOpIn (iL ρ) 0 P ops Q i K a w:=by
 obtain⟨cD,C1,ω1,hle,kC,m,he⟩:=bO
 unfold wpOpIn
 rw[hi]
 simp only[]
 unfold iI at hs
 split at hs
 ·rename_i hg
  rw[qzw he hr.guard hg]
  simp only[if_true]
  split at hs
  ·rename_i res dW
   cases hs
   obtain⟨h,md,r,hop⟩:=hr.op
   cases mL:ao.op.gM with
   |some sv=>
    -- the one write of a variable
    have Am:∃n y',ao.op=.dv n sv y':=by
     cases xu:ao.op<;>rw[xu]at mL<;>simp[qw.gM]at mL
     subst mL;exact⟨_,_,rfl⟩
    obtain⟨n,y',xu⟩:=Am
    have hdd:ao.dst=Eh sv:=by rw[hr.dst,xu];rfl
    rw[xu]at dW hop
    have bO:∃t x y,o.op=.store t x y∧yh P t=Eh n∧zr x=Eh (.tmp sv)∧zr y=Eh y':=by
     cases hoo:o.op<;>rw[hoo]at hop
     case store t x y=>
      simp only[cx]at hop
      split at hop
      ·rename_i n' x' yy hn h1 h2
       simp only[Ht]at hop
       cases lx:Mb h x' with
       |none=>rw[lx]at hop;cases hop
       |some s'=>
        rw[lx]at hop
        simp only[qw.dv.injEq]at hop
        obtain⟨rfl,rfl,rfl⟩:=hop
        refine⟨t,x,y,rfl,hn,?_,h2⟩
        unfold Mb at lx
        split at lx
        ·split at lx
         ·cases lx;exact h1
         ·cases lx
        ·cases lx
      ·cases hop
     all_goals exact absurd hop (q5i (by simp))
    obtain⟨t,x,y,ho,hn,h1,h2⟩:=bO
    simp only[za,zi]at dW
    split at dW
    ·rename_i mm v hl e2
     cases hk:(Gp mm n&&Gp v.flat.length n&&v.flat.all ze)with
     |false=>rw[hk]at dW;cases dW
     |true=>
      rw[hk]at dW
      simp only[cT,val,Eh.injEq]at dW
      subst dW
      simp only[El]at hk
      obtain⟨⟨k1,k2⟩,k3⟩:=hk
      obtain rfl:=Ev k1
      obtain⟨w',C',ω',bn,cz,m',e'⟩:=q9e m he ho hn h1 h2 hl e2 (Ev k2) k3
      refine⟨fun _ _=>trivial,?_⟩
      rw[Oper.semAt_eq _ _ _ (fun c hc=>by rw[ho]at hc;cases hc),bn]
      have MN:o.dst=none:=(hr.F5 sv mL).1
      refine hK _ _ ?_
      rw[MN,hdd]
      exact⟨cD,C',ω',ax.le_trans hle cz,kC.mono cz,m',e'⟩
    ·cases dW
   |none=>
   have qL:ao.dst=o.dst:=by rw[hr.dst];cases xu:ao.op<;>rw[xu]at mL<;>first|rfl|simp[qw.gM]at mL
   have bn:dY P C1 C0 w0 a (.slot (o.dst.getD 0)) st.env o w res:=by
    cases hc:cx P h md r o.dst o.op with
    |none=>rw[hc]at hop;simp only[Ok]at hop;rw[←hop]at dW;simp[za,zi]at dW
    |some cr=>rw[hc]at hop;simp only[Ht]at hop;subst hop;exact jqk dV hx m he mL hc dW
   have fin:∀v w',kj P C0 w0 C1 a.tmps (.slot (o.dst.getD 0)) st.env res v w'→K (a.put o.dst v) w':=by
    rintro v w' ⟨C2,ω2,h1,h2,h3,h4,h5⟩
    exact hK _ _ (ja8 (st:=st) qL hr.fits cD (kC.mono h1) (ax.le_trans hle h1) h2 h3 h4 h5)
   refine⟨fun _ _=>trivial,?_⟩
   rw[Oper.semAt_eq _ _ _ (fun c hc=>by
    rw[hc]at hop
    simp only[cx,Ok]at hop
    rw[←hop]at dW
    simp[za,zi]at dW)]
   rcases bn with⟨v,w',h1,h2⟩|⟨w',h1,h2⟩|⟨f,args,h1,h2⟩|⟨l,f,tmps,assign,body,h1,h2⟩
   ·rw[h1];exact fin v w' h2
   ·rw[h1];exact fin undef w' h2
   ·rw[h1]
    refine⟨fun h=>by simp[iL,Fence.wide]at h,CallsIn.mono (qvv.2 h2) ?_⟩
    rintro e w' ⟨v,rfl,gE⟩
    exact fin v w' gE
   ·rw[h1]
    have oe:RoundIn (iL ρ) 0 P l f tmps assign body w _:=h2
    refine⟨fun h=>by simp[iL,Fence.wide]at h,RoundIn.mono oe ?_⟩
    rintro e w' ⟨v,rfl,gE⟩
    exact fin v w' gE
  ·cases hs
 ·rename_i hg
  cases hs
  rw[qzw he hr.guard hg]
  simp only[Bool.false_eq_true,if_false]
  have qL:ao.dst=o.dst:=by
   cases mL:ao.op.gM with
   |none=>rw[hr.dst];cases xu:ao.op<;>rw[xu]at mL<;>first|rfl|simp[qw.gM]at mL
   |some sv=>
    have h1:=hr.guard
    rw[(hr.F5 sv mL).2]at h1
    simp only[Dl,Eh.injEq]at h1
    rw[←h1]at hg
    simp[mg]at hg
  exact⟨fun _ _=>trivial,hK _ _ (ja8 (st:=st) qL hr.fits cD kC hle m he .undef (by simp))⟩
 ·cases hs
inductive jp (P:Program)(nt:Nat)(ops:Array Oper):List Nat→List qv→Prop where
 |nil:jp P nt ops [] []
 |cons {i:Nat} {o:Oper} {ao:qv} {l:List Nat} {lo:List qv} (hi:ops[i]?=Eh o) (h:jt P nt ops o ao) (t:jp P nt ops l lo):jp P nt ops (i::l) (ao::lo)
theorem q5r (dV:qx P p)(hx:cg P xc){Q:Exit→Act→World→Prop}{bK:qh}(hQ:∀a' w',cX P w0 C0 C nt bK a' w'→Q .normal a' w'):∀ {l:List Nat} {lo:List qv} {st:qh} {a:Act} {w:World},jp P nt ops l lo→fF p xc h0 lo st=Eh bK→cX P w0 C0 C nt st a w→wpOpsIn (iL ρ) 0 P ops Q l a w
 | [],_,st,a,w,.nil,hs,bO=>by
  simp only[fF,Eh.injEq]at hs
  subst hs
  exact hQ _ _ bO
 |i::l,_,st,a,w,.cons hi h t,hs,bO=>by
  simp only[fF]at hs
  split at hs
  ·rename_i s1 h1
   rw[wpOpsIn_cons]
   exact q58 dV hx hi h h1 bO fun a' w' gT=>q5r dV hx hQ t hs gT
  ·cases hs
theorem qzi {h:qb}{id:Nat}{hE:Array Nat}{draw:Bool}:∀ {os:List Oper} {i:Nat} {rs Dm:List (Nat×Nat)} {l:List qv},E0 P h nt id ops hE draw os i rs=Eh (l,Dm)→(∀j,os[j]?=ops[i+j]?)→jp P nt ops (List.range' i os.length) l
 | [],i,rs,Dm,l,hc,_=>by
  simp only[E0,Eh.injEq,Prod.mk.injEq]at hc
  rw[←hc.1];exact .nil
 |o::os,i,rs,Dm,l,hc,hos=>by
  simp only[E0]at hc
  split at hc
  ·rename_i g hg
   split at hc
   ·rename_i cf
    split at hc
    ·rename_i l1 rs1 F7
     simp only[Eh.injEq,Prod.mk.injEq]at hc
     rw[←hc.1]
     simp only[El]at cf
     obtain⟨⟨hf1,hf2⟩,hf3⟩:=cf
     refine .cons (o:=o) (by rw[←Nat.add_zero i,←hos 0];rfl) ⟨⟨h,jct h id i,rs.length,rfl⟩,hg,rfl,fun d hd=>?_,fun d hd=>?_,fun d hd=>?_⟩ ?_
     ·rw[hd]at hf1
      simpa using hf1
     ·simp only at hd
      rw[hd]at hf2
      simpa using hf2
     ·simp only at hd
      rw[hd]at hf3
      simpa using hf3
     ·exact qzi F7 (fun j=>by rw[show i+1+j=i+(j+1)from by omega,←hos (j+1)];rfl)
    ·cases hc
   ·cases hc
  ·cases hc
theorem av.holes {ω:Nat→Option Loc}{w:World}{hp:j8}(m:av P C ω w0 C0 hp w)(n:Nat):av P C ω w0 C0 (hp++Sc n .hole) w:=
 { m with
  lt:=fun b r hb=>⟨(m.lt b r hb).1,by rw[List.length_append];have:=(m.lt b r hb).2;omega⟩
  box:=fun b x r hx hb=>m.box b x r (by rw[List.getElem?_append_left (m.lt b r hb).2]at hx;exact hx) hb }
theorem q2h {l:List Nat}{e:Env}{s:Nat}{x:qa×Bool}:ye s (pD e l)=Eh x→ye s e=Eh x:=by
 induction l with
 |nil=>simp[pD,ye]
 |cons t l ih=>
  intro h
  simp only[pD]at h
  split at h
  ·rename_i y hy
   by_cases bO:s=t
   ·subst bO;rw[DI]at h;rw[hy];exact h
   ·rw[MK bO]at h;exact ih h
  ·exact ih h
theorem cX.keep {st:qh}{a:Act}{w:World}{k:Option (List Nat)}(h:cX P w0 C0 C nt st a w):cX P w0 C0 C nt (zA st k) a w:=by
 cases k with
 |none=>exact h
 |some l=>
  obtain⟨h1,C',ω',h3,h2,h4,h5⟩:=h
  exact⟨h1,C',ω',h3,h2,h4,fun s x hx=>h5 s x (q2h hx)⟩
theorem qtu {listed:Array Bool}{i j:Nat}{d:Bool}:(listed.setIfInBounds i Eo).getD j d=if i=j∧j<listed.size then Eo else listed.getD j d:=by
 simp only[Gc,Array.getElem?_setIfInBounds]
 by_cases vG:i=j
 ·subst vG
  by_cases hl:i<listed.size
  ·simp[hl]
  ·simp[hl]
 ·simp[vG]
theorem iY.F8 {a b:qh}(h:iY a b):iY b a:=⟨h.1.symm,fun s=>(h.2 s).symm⟩
def pick (full:List qv)(l:List Nat):List qv:=l.map fun i=>full.getD i default
theorem jp.get {l:List Nat}{lo:List qv}(h:jp P nt ops l lo):l.length=lo.length∧∀k i,l[k]?=Eh i→∃o,ops[i]?=Eh o∧jt P nt ops o (lo.getD k default):=by
 induction h with
 |nil=>exact⟨rfl,by simp⟩
 |cons hi h t ih=>
  refine⟨by simp[ih.1],fun k i hk=>?_⟩
  cases k with
  |zero=>simp at hk;subst hk;exact⟨_,hi,h⟩
  |succ k=>simp at hk;obtain⟨o,h1,h2⟩:=ih.2 k i hk;exact⟨o,h1,by simpa using h2⟩
theorem jtt {full:List qv}{hE:Array Nat}(dV:qx P p)(hx:cg P xc){Q:Exit→Act→World→Prop}{bK:qh}(hQ:∀a' w',cX P w0 C0 C nt bK a' w'→Q .normal a' w')
  (qM:∀i o,ops[i]?=Eh o→jt P nt ops o (full.getD i default)) (F9:∀i j,i<j→j<ops.size→(hE.getD j 0).testBit i=E5→zE (full.getD i default) (full.getD j default)=Eo)
  (TE:∀j o i,ops[j]?=Eh o→i<ops.size→(hE.getD j 0).testBit i=Eo→∃e∈o.after,Region.binds .any e=Eo∧(e.on=i∨(hE.getD e.on 0).testBit i=Eo))
  (Ga:∀i o,ops[i]?=Eh o→∀e∈o.after,Region.binds .any e=Eo→e.on<i):
  ∀(fuel:Nat) (listed:Array Bool) (l:List Nat) (st s2:qh) (a:Act) (w:World),listed.size=ops.size→l.Pairwise (· < ·)→(∀i,i∈l↔i<ops.size∧listed.getD i Eo=E5)→l.length≤fuel →
   (∀k i,i<ops.size→listed.getD k E5=Eo→(hE.getD k 0).testBit i=Eo→listed.getD i E5=Eo)→fF p xc h0 (pick full l) st=Eh s2→iY s2 bK→cX P w0 C0 C nt st a w→wpAnyIn (iL ρ) 0 P .any ops Q fuel listed a w:=by
 intro fuel
 induction fuel with
 |zero=>
  intro listed l st s2 a w cD fL cR hlen kE hs heq bO
  have hl:l=[]:=List.length_eq_zero_iff.1 (by omega)
  subst hl
  simp only[pick,Sl,fF,Eh.injEq]at hs
  subst hs
  refine⟨?_,hQ _ _ (bO.eqv heq)⟩
  cases hr:Region.ready .any ops listed with
  |nil=>rfl
  |cons i rs=>
   have hi:i∈Region.ready .any ops listed:=by rw[hr];simp
   obtain⟨h1,o,ho,_⟩:=mem_ready.1 hi
   have:=(cR i).2 ⟨(Ip.1 ho).1,h1⟩
   cases this
 |succ fuel ih=>
  intro listed l st s2 a w cD fL cR hlen kE hs heq bO
  refine⟨fun hr=>?_,fun i hi=>?_⟩
  ·cases l with
   |nil=>
    simp only[pick,Sl,fF,Eh.injEq]at hs
    subst hs
    exact hQ _ _ (bO.eqv heq)
   |cons i l=>
    exfalso
    obtain⟨h1,h2⟩:=(cR i).1 (by simp)
    have hi:i∈Region.ready .any ops listed:=by
     refine mem_ready.2 ⟨h2,ops[i],Gn h1,fun e he hb=>?_⟩
     have aY:=Ga i _ (Gn h1) e he hb
     have br:e.on ∉ i::l:=fun hm=>by
      rcases Si.1 hm with h|h
      ·omega
      ·have:=(Oe.1 fL).1 _ h;omega
     have h3:¬(listed.getD e.on Eo=E5):=fun h=>br ((cR e.on).2 ⟨by omega,h⟩)
     have qN:e.on<listed.size:=by omega
     simp only[Gc,Gn qN,Ht]at h3 ⊢
     simpa using h3
    rw[hr]at hi
    cases hi
  ·obtain⟨h1,o,ho,hall⟩:=mem_ready.1 hi
   have aY:=(Ip.1 ho).1
   have him:i∈l:=(cR i).2 ⟨aY,h1⟩
   obtain⟨l1,l2,rfl⟩:=List.append_of_mem him
   have TF:∀k,k∈l1++i::l2→listed.getD k E5=Eo→False:=fun k hk hl=>by
    obtain⟨k1,k2⟩:=(cR k).1 hk
    have qN:k<listed.size:=by omega
    simp only[Gc,Gn qN,Ht]at hl k2
    rw[hl]at k2;cases k2
   have hbi:∀k,k<ops.size→(hE.getD i 0).testBit k=Eo→listed.getD k E5=Eo:=fun k hk hb=>by
    obtain⟨e,he,kT,h2|h2⟩:=TE i o k ho hk hb
    ·rw[←h2];exact hall e he kT
    ·exact kE e.on k hk (hall e he kT) h2
   have hm:∀b∈pick full l1,zE b (full.getD i default)=Eo:=by
    intro b hb
    obtain⟨k,hk,rfl⟩:=List.mem_map.1 hb
    have Ao:k<i:=(Nr.1 fL).2.2 k hk i (by simp)
    refine F9 k i Ao aY ?_
    cases TG:(hE.getD i 0).testBit k with
    |false=>rfl
    |true=>exact(TF k (by simp[hk]) (hbi k (by omega) TG)).elim
   have TH:pick full (l1++i::l2)=pick full l1++full.getD i default::pick full l2:=by simp[pick]
   rw[TH]at hs
   obtain⟨t1,t2,g1,g2,g3⟩:=qvb hm hs
   refine q58 dV hx ho (qM i o ho) g1 bO fun a' w' gT=>?_
   refine ih (listed.setIfInBounds i Eo) (l1++l2) t1 t2 a' w' (by simpa using cD) ?_ ?_ ?_ ?_ (by rw[show pick full (l1++l2)=pick full l1++pick full l2 from by simp[pick]];exact g2) (iY.trans (iY.F8 g3) heq) gT
   ·exact fL.sublist (Sp.append (Sp.refl _) (List.sublist_cons_self _ _))
   ·intro k
    rw[qtu]
    have Gb:i ∉ l1∧i ∉ l2:=by
     have h:=Nr.1 fL
     refine⟨fun hi1=>?_,fun hi2=>?_⟩
     ·have:=h.2.2 i hi1 i (by simp);omega
     ·have:=(Oe.1 h.2.1).1 i hi2;omega
    constructor
    ·intro hk
     have Ao:k≠i:=fun h=>by
      subst h
      rcases Mu.1 hk with h|h
      ·exact Gb.1 h
      ·exact Gb.2 h
     have:=(cR k).1 (by rcases Mu.1 hk with h|h<;>simp[h])
     rw[if_neg (by omega)]
     exact this
    ·rintro ⟨k1,k2⟩
     split at k2
     ·cases k2
     ·rename_i br
      have Ao:k≠i:=fun h=>br ⟨h.symm,by omega⟩
      have:=(cR k).2 ⟨k1,k2⟩
      rcases Mu.1 this with h|h
      ·simp[h]
      ·rcases Si.1 h with h|h
       ·exact absurd h Ao
       ·simp[h]
   ·simp at hlen ⊢;omega
   ·intro k j hj hk hb
    rw[qtu]at hk ⊢
    split
    ·rfl
    ·split at hk
     ·rename_i Ap
      rw[←Ap.1]at hb
      exact hbi j hj hb
     ·exact kE k j hj hk hb
theorem q4y {hE:Array Nat}{l:List qv}(h:R4 hE l=Eo){i j:Nat}(vG:i<j)(hj:j<l.length)(hb:(hE.getD j 0).testBit i=E5):zE (l.getD i default) (l.getD j default)=Eo:=by
 unfold R4 at h
 rw[Gx]at h
 have h1:=h (l[j],j) (Gl.2 (by simp[hj]))
 simp only[]at h1
 rw[Gx]at h1
 have h2:=h1 (l[i]'(by omega),i) (Gl.2 (by simp))
 simp only[vG,hb,decide_true,Od,I7]at h2
 simp only[List.getD_eq_getElem?_getD,Iu hj,Iu (show i<l.length by omega),Ht]
 exact h2
theorem q76 {hE:Array Nat}(h:R6 hE ops=Eo){j i:Nat}{o:Oper}(ho:ops[j]?=Eh o)(hi:i<ops.size)(hb:(hE.getD j 0).testBit i=Eo):∃e∈o.after,Region.binds .any e=Eo∧(e.on=i∨(hE.getD e.on 0).testBit i=Eo):=by
 unfold R6 at h
 rw[Gx]at h
 have h1:=h (o,j) (Gl.2 (by simpa using ho))
 simp only[]at h1
 rw[Gx]at h1
 have h2:=h1 i (Sg.2 hi)
 rw[hb]at h2
 simp only[Od,I7,Array.any_eq_true']at h2
 obtain⟨e,he,h3⟩:=h2
 simp only[El,R2,beq_iff_eq]at h3
 exact⟨e,he,h3.1,h3.2⟩
theorem q2e (h:R5 ops=Eo){i:Nat}{o:Oper}(ho:ops[i]?=Eh o):∀e∈o.after,Region.binds .any e=Eo→e.on<i:=by
 intro e he hb
 unfold R5 at h
 rw[Gx]at h
 have h1:=h (o,i) (Gl.2 (by simpa using ho))
 simp only[Array.all_eq_true']at h1
 have:=h1 e he
 simpa[hb]using this
theorem jaq (dV:qx P p)(hx:cg P xc){id:Nat}{draw:Bool}{ca:qg}{h:qb}{na:Nat}{l:List qv}{keep:Option (List Nat)}(hc:E2 P h nt id ops draw=Eh ca)(dL:ca=.region na l keep){st bK:qh}{x:qo}(hs:mr p xc na l keep st=Eh (x,bK)){ω:Nat→Option Loc}{a:Act}{w:World}
  (m:av P C ω w0 C0 st.heap w) (he:ai C ω w w0.heap.size st.env a.tmps) (cD:a.tmps.size=nt) (kC:Marks C w0.heap.size a.defers):
  (Code.region id ops draw).wpIn (iL ρ) 0 P (fun e a' w'=>e=Aa x∧cX P w0 C0 C nt bK a' w') a w:=by
 subst dL
 unfold E2 at hc
 split at hc
 ·rename_i l' rs hl
  split at hc
  ·rename_i hd
   simp only[Eh.injEq,qg.region.injEq]at hc
   obtain⟨rfl,rfl,nA⟩:=hc
   unfold mr at hs
   split at hs
   ·rename_i s1 h1
    cases hs
    have xw:jp P nt ops (List.range' 0 ops.size) l':=by
     have:=qzi hl (ops:=ops) (fun j=>by simp)
     simpa using this
    have hQ:∀a' w',cX P w0 C0 C nt s1 a' w'→(fun e a' w'=>e=Aa .normal∧cX P w0 C0 C nt (zA s1 keep) a' w') Exit.normal a' w':=fun a' w' bO=>⟨rfl,bO.keep⟩
    cases draw with
    |false=>
     refine wpIn_region ?_
     rw[List.range_eq_range']
     exact q5r dV hx hQ xw h1 ⟨cD,C,ω,ax.le_refl C,kC,m.holes _,he⟩
    |true=>
     simp only[Od,I7,El]at hd
     obtain⟨⟨d1,d2⟩,d3⟩:=hd
     refine wpIn_region_any dV.mixed ?_
     obtain⟨hlen,TI⟩:=xw.get
     have hlen':l'.length=ops.size:=by rw[←hlen];simp
     have qM:∀i o,ops[i]?=Eh o→jt P nt ops o (l'.getD i default):=by
      intro i o ho
      have hi:=(Ip.1 ho).1
      obtain⟨o',h2,h3⟩:=TI i i (by rw[List.getElem?_range' hi];simp)
      rw[ho]at h2;cases h2;exact h3
     have TH:pick l' (List.range ops.size)=l':=by
      apply I9
      intro k
      simp only[pick,List.getElem?_map]
      by_cases hk:k<ops.size
      ·rw[List.getElem?_range hk]
       simp[Iu (show k<l'.length by omega)]
      ·rw[M1 (by simpa using hk),M1 (by omega)];rfl
     refine jtt (hE:=Region.before ops) (full:=l') dV hx hQ qM (fun i j h2 h3 h4=>q4y d1 h2 (by omega) h4) (fun j o i h2 h3 h4=>q76 d3 h2 h3 h4) (fun i o h2=>q2e d2 h2) ops.size _ (List.range ops.size) ⟨st.env,st.heap++Sc rs.length .hole⟩ s1 a _ (by simp) List.pairwise_lt_range ?_ (by simp) ?_ (by rw[TH];exact h1) (iY.refl _) ⟨cD,C,ω,ax.le_refl C,kC,(m.holes _).ext (Ext.drew w),he.ext (Ext.drew w)⟩
     ·intro i
      simp only[Sg,Gc,Ml]
      constructor
      ·intro hi;exact⟨hi,by simp[hi]⟩
      ·exact fun hi=>hi.1
     ·intro k i hi hk
      simp only[Gc,Ml]at hk
      split at hk<;>simp at hk
   ·cases hs
  ·cases hc
 ·cases hc
end
end Go.Abs
