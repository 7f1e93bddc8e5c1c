/- Two operations that may be exchanged. -/
import Derived.Test.YtfopaakmgogpiaaGreatDoorAbsE
import Derived.OrdersIn
set_option linter.unusedVariables false
set_option linter.unusedSimpArgs false
open List renaming getElem?_set_ne→I,getElem?_eq_some_iff→E0,set_comm→E7,mem_zipIdx_iff_getElem?→Gd,getElem?_set_self→Ge,all_eq_true→Gz,length_set→H6,getElem?_eq_getElem→Ma,ext_getElem?→Mw,mem_append→Nf,mem_append_right→Ny,getElem?_eq_none→N0,mem_append_left→N1,pairwise_append→N2,pairwise_cons→N4,getElem?_set→R9,cons_append→Sc,replicate→So,mem_range→Sr,mem_cons→St,map_nil→Sw,Sublist→Sx
open Option renaming some→Ef,getD_some→Hh,map_eq_some_iff→Hq,bind_some→Sf,getD_none→Sj
open Bool renaming and_eq_true→En,true→E1,false→E4,cond_eq_ite→Gc,false_or→Mj,not_true→N3,or_eq_true→Sm
open Nat renaming eq_of_beq_eq_true→E3,blt_eq→E6,blt→Ga,beq→Gy,ble→Mi,le_of_ble_eq_true→Mu,beq_refl→R5
open Array renaming getD_eq_getD_getElem?→E9,getElem?_eq_getElem→Gm,getElem?_eq_some_iff→If,getElem?_replicate→My
open Ne renaming symm→Gb
namespace Go.Abs
section
variable {p:qt}{xc:XC}{h0:Nat}{al:Option (List Nat)}
def Agree (l:List Nat)(e e':Env):Prop:=∀s∈l,yd s e=yd s e'
theorem Agree.app {l l':List Nat}{e e':Env}(h:Agree (l++l') e e'):Agree l e e'∧Agree l' e e':=
 ⟨fun s hs=>h s (N1 _ hs),fun s hs=>h s (Ny _ hs)⟩
theorem zp {e e':Env}{x:qh}(h:Agree (yz x) e e'):zc e x=zc e' x:=by
 cases x with
 |tmp t=>simp only[zc,h t (by simp[yz])]
 |const v=>rfl
theorem Dw {e e':Env}:∀ {l:List qh},Agree (wR l) e e'→fF e l=fF e' l
 | [],_=>rfl
 |x::l,h=>by
  have h':Agree (yz x++wR l) e e':=by simpa[wR]using h
  simp only[fF,zp h'.app.1,Dw h'.app.2]
theorem Dx {e e':Env}{x:Option qh}(d n:Nat)(h:Agree (zk x) e e'):eT e d n x=eT e' d n x:=by
 cases x with
 |none=>rfl
 |some x=>simp only[eT,zp (x:=x) h]
theorem Te {e e':Env}{x:qh}(h:Agree (yz x) e e'):kg e x=kg e' x:=by
 cases x with
 |tmp t=>simp only[kg,h t (by simp[yz])]
 |const v=>rfl
theorem ql7 {e e':Env}:∀ {l:List (Nat×Nat×qh)},Agree (l.flatMap fun p=>yz p.2.2) e e'→la e l=la e' l
 | [],_=>rfl
 |(i,n,x)::l,h=>by
  have h':Agree (yz x++l.flatMap fun p=>yz p.2.2) e e':=by simpa using h
  simp only[la,zp h'.app.1,ql7 h'.app.2]
theorem Tf {e e':Env}{sz:Nat}:∀ {l:List (Nat×qh)},Agree (l.flatMap fun p=>yz p.2) e e'→iA e sz l=iA e' sz l
 | [],_=>rfl
 |(i,x)::l,h=>by
  have h':Agree (yz x++l.flatMap fun p=>yz p.2) e e':=by simpa using h
  simp only[iA,zp h'.app.1,Tf h'.app.2]
theorem q33 {e e':Env}{h:j8}{op:qw}(ha:Agree op.reads e e'):j9 p xc h0 al e h op=j9 p xc h0 al e' h op:=by
 cases op with
 |move x=>simp only[j9,zh,zp (x:=x) ha]
 |take s=>simp only[j9,zh,ha s (by simp[qw.reads])]
 |pick c x y=>simp only[qw.reads]at ha;simp only[j9,zh,zp ha.app.1.app.1,zp ha.app.1.app.2,zp ha.app.2]
 |build z ps=>simp only[j9,zh,ql7 (l:=ps) ha]
 |buildSlice sz n z ps=>simp only[j9,zh,Tf (l:=ps) ha]
 |nilCheck x=>simp only[j9,zh,zp (x:=x) ha]
 |fU n=>rfl
 |dw n s x=>
  simp only[qw.reads]at ha
  have h1:yd s e=yd s e':=ha s (by simp)
  have h2:Agree (yz x) e e':=fun t ht=>ha t (by simp[ht])
  simp only[j9,zh,h1,zp h2]
 |nY n x=>simp only[j9,zh,zp (x:=x) ha]
 |eP ag n x=>simp only[j9,zh,zp (x:=x) ha]
 |bin op x y=>simp only[qw.reads]at ha;simp only[j9,zh,zp ha.app.1,zp ha.app.2]
 |eqs ks n x y=>simp only[qw.reads]at ha;simp only[j9,zh,zp ha.app.1,zp ha.app.2]
 |beq n x y=>simp only[qw.reads]at ha;simp only[j9,zh,zp ha.app.1,zp ha.app.2]
 |eQ k n x=>simp only[j9,zh,zp (x:=x) ha]
 |un op x=>simp only[j9,zh,zp (x:=x) ha]
 |conv k x=>simp only[j9,zh,zp (x:=x) ha]
 |eJ x=>simp only[j9,zh,zp (x:=x) ha]
 |field ag off n x=>simp only[j9,zh,zp (x:=x) ha]
 |index ag l n x i=>simp only[qw.reads]at ha;simp only[j9,zh,zp ha.app.1,zp ha.app.2]
 |dM x i=>simp only[qw.reads]at ha;simp only[j9,zh,zp ha.app.1,zp ha.app.2]
 |fieldAddr ag off n x=>simp only[j9,zh,zp (x:=x) ha]
 |indexAddr sz x i=>simp only[qw.reads]at ha;simp only[j9,zh,zp ha.app.1,zp ha.app.2]
 |dN ag l sz x i=>simp only[qw.reads]at ha;simp only[j9,zh,zp ha.app.1,zp ha.app.2]
 |slice sz x lo hi=>simp only[qw.reads]at ha;simp only[j9,zh,zp ha.app.1.app.1,Dx _ _ ha.app.1.app.2,Dx _ _ ha.app.2]
 |eo x lo hi=>simp only[qw.reads]at ha;simp only[j9,zh,zp ha.app.1.app.1,Dx _ _ ha.app.1.app.2,Dx _ _ ha.app.2]
 |ep l sz x lo hi=>simp only[qw.reads]at ha;simp only[j9,zh,zp ha.app.1.app.1,Dx _ _ ha.app.1.app.2,Dx _ _ ha.app.2]
 |fV f x y=>simp only[qw.reads]at ha;simp only[j9,zh,Dw ha.app.1,Dw ha.app.2]
 |len k x=>simp only[j9,zh,zp (x:=x) ha]
 |append r sz b x y=>
  simp only[qw.reads]at ha
  cases r with
  |none=>simp only[j9,zh,zp ha.app.1,zp ha.app.2,Te ha.app.1]
  |some r=>simp only[j9,zj,zp ha.app.1,zp ha.app.2,Te ha.app.1]
 |gH r sz b x y=>simp only[qw.reads]at ha;simp only[j9,zj,zp ha.app.1,zp ha.app.2]
 |gI r sz n z ps=>simp only[j9,zj,Tf (l:=ps) ha]
 |bW r sz b z n c=>
  simp only[qw.reads]at ha
  cases r with
  |none=>simp only[j9,zh,zp ha.app.1,zp ha.app.2]
  |some r=>simp only[j9,zj,zp ha.app.1,zp ha.app.2]
 |mx l=>simp only[j9,zh,Dw (l:=l) ha]
 |mn l=>simp only[j9,zh,Dw (l:=l) ha]
 |extract x i=>simp only[j9,zh,zp (x:=x) ha]
 |load ag n x=>simp only[j9,gW,zp (x:=x) ha]
 |alloc r z=>rfl
 |fE r t e=>rfl
 |box r n x=>simp only[j9,zj,zp (x:=x) ha]
 |b8 off x=>simp only[j9,zj,zp (x:=x) ha]
 |store n x y=>simp only[qw.reads]at ha;simp only[j9,zj,zp ha.app.1,zp ha.app.2,Te ha.app.2]
 |dO r=>rfl
 |dc r x=>simp only[j9,zj,zp (x:=x) ha]
 |call md f l=>simp only[qw.reads]at ha;simp only[j9,iC,zp ha.app.1,Dw ha.app.2]
 |lookup kd z ok x y=>simp only[qw.reads]at ha;simp only[j9,gW,zp ha.app.1,zp ha.app.2]
 |mapUpdate kd x y z=>simp only[qw.reads]at ha;simp only[j9,zj,zp ha.app.1.app.1,zp ha.app.1.app.2,zp ha.app.2]
 |delete kd x y=>simp only[qw.reads]at ha;simp only[j9,zj,zp ha.app.1,zp ha.app.2]
 |copy sz x y=>simp only[qw.reads]at ha;simp only[j9,zj,zp ha.app.1,zp ha.app.2]
 |eR x=>simp only[j9,zj,zp (x:=x) ha]
 |bad=>rfl
def qq.at (r:qq)(h:j8):qq:={ r with heap:=h }
theorem lZ {h h':j8}{x:qa}{r:qq}(hs:val h x=Ef r):r.heap=h∧val h' x=Ef (r.at h'):=by
 simp only[val,Ef.injEq]at hs;subst hs;exact⟨rfl,rfl⟩
theorem jh1 (h:j8)(x:Option qa):fW h x=(fW [] x).map (·.at h):=by cases x<;>rfl
theorem Tg {α β:Type}(c:Bool)(x y:Option α)(f:α→β):(bif c then x else y).map f=bif c then x.map f else y.map f:=by cases c<;>rfl
theorem qri (e:Env)(h:j8)(op:qw):zh e h op=(zh e [] op).map (·.at h):=by
 cases op with
 |append r sz b x y=>
  cases r with
  |some r=>rfl
  |none=>
   simp only[zh]
   repeat' split
   all_goals first
    |rfl
    |(simp only[Tg];repeat' split)<;>rfl
 |bW r sz b z n c=>
  cases r with
  |some r=>rfl
  |none=>
   simp only[zh]
   repeat' split
   all_goals first
    |rfl
    |(simp only[Tg];rfl)
 |_=>
  simp only[zh]
  repeat' split
  all_goals first
   |rfl
   |exact jh1 _ _
   |(simp only[Tg];first|rfl|(repeat' split)<;>rfl)
theorem qub {e:Env}{h:j8}(h':j8){op:qw}{r:qq}(hs:zh e h op=Ef r):r.heap=h∧zh e h' op=Ef (r.at h'):=by
 rw[qri]at hs
 obtain⟨r0,h1,rfl⟩:=Hq.1 hs
 refine⟨rfl,?_⟩
 rw[qri,h1]
 rfl
end
section
variable {p:qt}{xc:XC}{h0:Nat}{al:Option (List Nat)}
def nV:Option qn→Bool
 |some (.vec ..)=>E4
 |some .hole=>E4
 |_=>E1
theorem FQ {h:j8}{b:Nat}{cs:List (qa×Bool)}(hc:ym h b=Ef cs):nV h[b]?=E1:=by
 unfold ym at hc
 split at hc
 ·rename_i h1;rw[h1];rfl
 ·cases hc
theorem Dy {h:j8}{b:Nat}{x:qn}(hb:y5 h b=Ef x)(hx:nV (Ef x)=E1):nV h[b]?=E1:=by
 unfold y5 at hb;rw[hb];exact hx
def Ti:qn→Option Nat
 | .vec sz _ _=>Ef sz
 |_=>none
def HB (h0:Nat)(al:Option (List Nat))(F:j8→Option qq)(h:j8)(r:qq):jq→Nat→Prop
 | .pure,_=>r.heap=h∧∀h',F h'=Ef (r.at h')
 | .read,_=>r.heap=h∧∀h':j8,(∀b,yv h0 al b=E1→(oT al=E1→nV h[b]?=E1)→h'[b]?=h[b]?)→F h'=Ef (r.at h')
 | .alloc,k=>∃x,aJ h0 h k x=Ef r.heap∧∀h' h3,aJ h0 h' k x=Ef h3→F h'=Ef (r.at h3)
 | .write,_=>∃b x,yv h0 al b=E1∧nV h[b]?=E1∧nV (Ef x)=E1∧yl h b x=Ef r.heap∧∀h' h3:j8,h'[b]?=h[b]?→yl h' b x=Ef h3→F h'=Ef (r.at h3)
 | .take,k=>∃b cs v o,yv h0 al b=E1∧h[b]?=Ef (.cells cs)∧cs[k]?=Ef (v,o)∧r.heap=h.set b (.cells (cs.set k (v,E4))) ∧
   ∀(h':j8) (dV:List (qa×Bool)),h'[b]?=Ef (.cells dV)→dV[k]?=Ef (v,o)→F h'=Ef (r.at (h'.set b (.cells (dV.set k (v,E4)))))
 | .fb,_=>False
 | .shr,_=>True
 | .nB,k=>∃q x y,(q=h0+k % 1000∧y=.hole∨Ti y=Ef (k / 1000))∧h[q]?=Ef y∧r.heap=h.set q x∧Ti x=Ef (k / 1000)∧∀h':j8,h'[q]?=Ef y→F h'=Ef (r.at (h'.set q x))
theorem FR {h h':j8}{b:Nat}(hb:h'[b]?=h[b]?):ym h' b=ym h b:=by simp only[ym,hb]
theorem jc5 {e:Env}{h:j8}{op:qw}{r:qq}(hs:j9 p xc h0 al e h op=Ef r):HB h0 al (fun h=>j9 p xc h0 al e h op) h r op.cl op.cA:=by
 have fK:(∀h,j9 p xc h0 al e h op=zh e h op)→op.cl=.pure→HB h0 al (fun h=>j9 p xc h0 al e h op) h r op.cl op.cA:=by
  intro heq du
  rw[du]
  rw[heq]at hs
  exact⟨(qub h hs).1,fun h'=>(heq h').trans (qub h' hs).2⟩
 cases op with
 |load ag n x=>
  simp only[j9,gW]at hs
  split at hs
  ·rename_i b o hv
   cases hk:yv h0 al b with
   |false=>simp[hk]at hs
   |true=>
    simp only[hk,cT]at hs
    split at hs
    ·rename_i cs hcs
     split at hs
     ·rename_i vs Mn
      have key:r.heap=h∧∀h':j8,ym h' b=ym h b→gW h0 al e h' (.load ag n x)=Ef (r.at h'):=by
       cases ag with
       |true=>
        simp only[cT]at hs
        refine⟨(lZ (h':=h) hs).1,fun h' hb=>?_⟩
        simp only[gW,hv,hk,cT,hb,hcs,Mn]
        exact(lZ (h':=h') hs).2
       |false=>
        simp only[cond_false]at hs
        split at hs
        ·refine⟨(lZ (h':=h) hs).1,fun h' hb=>?_⟩
         simp only[gW,hv,hk,cT,hb,hcs,Mn,cond_false]
         exact(lZ (h':=h') hs).2
        ·cases hs
      exact⟨key.1,fun h' cL=>key.2 h' (FR (cL b hk fun _=>FQ hcs))⟩
     ·cases hs
    ·cases hs
  ·rename_i v hv
   cases hk:(Bool.xor ag v.isAgg||!(Gy v.flat.length n))with
   |true=>simp[hk]at hs
   |false=>
    simp only[hk,cond_false]at hs
    refine⟨(lZ (h':=h) hs).1,fun h' _=>?_⟩
    simp only[j9,gW,hv,hk,cond_false]
    exact(lZ (h':=h') hs).2
  ·rename_i b bz q hv
   cases hk:tW h0 al b with
   |false=>simp[hk]at hs
   |true=>
    simp only[hk,cT]at hs
    have gP:=hk
    simp only[tW,En,Bool.not_eq_true']at gP
    split at hs
    ·rename_i sz df xs gd
     have iQ:∀h':j8,(∀b,yv h0 al b=E1→(oT al=E1→nV h[b]?=E1)→h'[b]?=h[b]?)→y5 h' b=Ef (.vec sz df xs):=fun h' cL=>by
      unfold y5 at gd ⊢;rw[cL b gP.1 (fun ho=>by rw[gP.2]at ho;cases ho),gd]
     cases cY:(Gy bz df&&Mi (q+n) (xs.flatMap qa.flat).length)with
     |false=>rw[cY]at hs;cases hs
     |true=>
      rw[cY]at hs
      simp only[cT]at hs
      cases ag with
      |true=>
       simp only[cT]at hs
       refine⟨(lZ (h':=h) hs).1,fun h' cL=>?_⟩
       simp only[j9,gW,hv,hk,cT,iQ h' cL,cY]
       exact(lZ (h':=h') hs).2
      |false=>
       simp only[cond_false]at hs
       split at hs
       ·rename_i z hz
        refine⟨(lZ (h':=h) hs).1,fun h' cL=>?_⟩
        simp only[j9,gW,hv,hk,cT,iQ h' cL,cY,cond_false,hz]
        exact(lZ (h':=h') hs).2
       ·cases hs
    ·cases hs
  ·cases hs
 |len k x=>exact fK (fun _=>rfl) rfl
 |alloc rk z=>
  simp only[j9,zj]at hs
  cases hk:z.all ze with
  |false=>simp[hk]at hs
  |true=>
   simp only[hk,cT]at hs
   split at hs
   ·rename_i h' hn
    have h1:=zx hs
    refine⟨_,by rw[h1];exact hn,fun g g3 hg=>?_⟩
    simp only[j9,zj,hk,cT]
    rw[show qw.cA (.alloc rk z)=rk from rfl]at hg
    rw[hg,h1];rfl
   ·cases hs
 |box rk n x=>
  simp only[j9,zj]at hs
  split at hs
  ·rename_i v hv
   cases hk:(Gy v.flat.length n&&v.flat.all ze)with
   |false=>simp[hk]at hs
   |true=>
    simp only[hk,cT]at hs
    split at hs
    ·rename_i h' hn
     have h1:=zx hs
     refine⟨_,by rw[h1];exact hn,fun g g3 hg=>?_⟩
     simp only[j9,zj,hv,hk,cT]
     rw[show qw.cA (.box rk n x)=rk from rfl]at hg
     rw[hg,h1];rfl
    ·cases hs
  ·cases hs
 |fE rk t e'=>
  simp only[j9,zj]at hs
  split at hs
  ·rename_i h' hn
   have h1:=zx hs
   refine⟨_,by rw[h1];exact hn,fun g g3 hg=>?_⟩
   simp only[j9,zj]
   rw[show qw.cA (.fE rk t e')=rk from rfl]at hg
   rw[hg,h1];rfl
  ·cases hs
 |dO rk=>
  simp only[j9,zj]at hs
  split at hs
  ·rename_i h' hn
   have h1:=zx hs
   refine⟨_,by rw[h1];exact hn,fun g g3 hg=>?_⟩
   simp only[j9,zj]
   rw[show qw.cA (.dO rk)=rk from rfl]at hg
   rw[hg,h1];rfl
  ·cases hs
 |dc rk x=>
  simp only[j9,zj]at hs
  split at hs
  ·rename_i s hv
   split at hs
   ·rename_i h' hn
    have h1:=zx hs
    refine⟨_,by rw[h1];exact hn,fun g g3 hg=>?_⟩
    simp only[j9,zj,hv]
    rw[show qw.cA (.dc rk x)=rk from rfl]at hg
    rw[hg,h1];rfl
   ·cases hs
  ·cases hs
 |b8 off x=>
  simp only[j9,zj]at hs
  split at hs
  ·rename_i b o hv
   cases hk:yv h0 al b&&tX off o with
   |false=>simp[hk]at hs
   |true=>
    simp only[hk,cT]at hs
    have eC:yv h0 al b=E1:=by simp only[En]at hk;exact hk.1
    split at hs
    ·rename_i cs hcs
     split at hs
     ·rename_i v ow hq
      split at hs
      ·rename_i h' bq
       cases hs
       have nJ:=bq
       unfold yl at nJ
       cases aY:Ga b h.length with
       |false=>simp[aY]at nJ
       |true=>
        simp only[aY,cT,Ef.injEq]at nJ
        cases off with
        |none=>
         refine⟨b,_,eC,FQ hcs,rfl,bq,fun g g3 hb hg=>?_⟩
         simp only[j9,zj,hv,hk,cT,FR hb,hcs,hq,hg]
         rfl
        |some k=>
         have hko:k=o:=by
          simp only[En,tX]at hk;exact E3 hk.2
         subst hko
         have hhb:h[b]?=Ef (.cells cs):=by
          unfold ym at hcs
          split at hcs
          ·rename_i dV h';cases hcs;exact h'
          ·cases hcs
         refine⟨b,cs,v,ow,eC,hhb,hq,nJ.symm,fun g dV hg dC=>?_⟩
         have dC:dV[k]?=Ef (v,ow):=dC
         have hlg:b<g.length:=(E0.1 hg).1
         have kP:ym g b=Ef dV:=by simp only[ym,hg]
         have hsg:yl g b (.cells (dV.set k (v,E4)))=Ef (g.set b (.cells (dV.set k (v,E4)))):=by
          unfold yl;rw[E6.mpr hlg];rfl
         simp only[j9,zj,hv,hk,cT,kP,dC,hsg]
         rfl
      ·cases hs
     ·cases hs
    ·cases hs
  ·cases hs
 |store n x y=>
  simp only[j9,zj]at hs
  split at hs
  ·rename_i b o v hv hy
   cases hk:yv h0 al b with
   |false=>simp[hk]at hs
   |true=>
    simp only[hk,cT]at hs
    split at hs
    ·rename_i cs hcs
     split at hs
     ·rename_i t ht
      cases cY:(Gy n 1&&v.cu&&Ga o cs.length)with
      |false=>simp[cY]at hs
      |true=>
       simp only[cY,cT]at hs
       split at hs
       ·rename_i h' bq
        cases hs
        refine⟨b,_,hk,FQ hcs,rfl,bq,fun g g3 hb hg=>?_⟩
        simp only[j9,zj,hv,hy,hk,cT,FR hb,hcs,ht,cY,hg]
        rfl
       ·cases hs
     ·rename_i ht
      cases cY:Gy v.flat.length n with
      |false=>simp[cY]at hs
      |true=>
       simp only[cY,cT]at hs
       split at hs
       ·rename_i dV bU
        split at hs
        ·rename_i h' bq
         have h1:=zx hs
         refine⟨b,_,hk,FQ hcs,rfl,by rw[h1];exact bq,fun g g3 hb hg=>?_⟩
         simp only[j9,zj,hv,hy,hk,cT,FR hb,hcs,ht,cY,bU,hg,h1]
         rfl
        ·cases hs
       ·cases hs
    ·cases hs
  ·cases hs
 |call md f l=>
  cases md with
  |shr=>trivial
  |red=>trivial
  |fb rk=>
   simp only[j9,iC]at hs
   split at hs
   ·rename_i k first captured vs e1 e2
    cases hb:(first++vs++captured).isEmpty with
    |false=>
     rw[hb]at hs
     simp only[cond_false]at hs
     cases lz:zu 0 (first++vs++captured)with
     |false=>rw[lz]at hs;cases hs
     |true=>
      rw[lz]at hs
      simp only[cT]at hs
      split at hs
      ·rename_i v o qF
       have goal:∃x,aJ h0 h rk x=Ef r.heap∧∀g g3,aJ h0 g rk x=Ef g3→pH h0 g rk v o=Ef (r.at g3):=by
        unfold pH at hs
        split at hs
        ·split at hs
         ·rename_i h' hn
          have h1:=zx hs
          refine⟨_,by rw[h1];exact hn,fun g g3 hg=>?_⟩
          simp only[pH,hg,h1];rfl
         ·cases hs
        ·rename_i sz xs
         cases Fy:(xs.flatMap qa.flat).all ny with
         |false=>rw[Fy]at hs;cases hs
         |true=>
          rw[Fy]at hs
          simp only[cT]at hs
          split at hs
          ·rename_i h' hn
           have h1:=zx hs
           refine⟨_,by rw[h1];exact hn,fun g g3 hg=>?_⟩
           simp only[pH,Fy,cT,hg,h1];rfl
          ·cases hs
        ·cases hs
       obtain⟨x,g1,g2⟩:=goal
       refine⟨x,g1,fun g g3 hg=>?_⟩
       simp only[j9,iC,e1,e2,qF]
       rw[hb,lz]
       exact g2 g g3 hg
      ·cases hs
    |true=>
     rw[hb]at hs
     simp only[cT]at hs
     split at hs
     ·rename_i es hm
      split at hs
      ·rename_i h' hn
       have h1:=zx hs
       refine⟨_,by rw[h1];exact hn,fun g g3 hg=>?_⟩
       simp only[j9,iC,e1,e2,hm]
       rw[hb]
       simp only[cT]
       rw[show qw.cA (.call (.fb rk) f l)=rk from rfl]at hg
       rw[hg,h1];rfl
      ·cases hs
     ·cases hs
   ·cases hs
   ·cases hs
  |bM=>
   simp only[j9,iC]at hs
   split at hs
   ·rename_i k first captured vs e1 e2
    cases hb:zu 0 (first++vs++captured)with
    |false=>rw[hb]at hs;cases hs
    |true=>
     rw[hb]at hs
     simp only[cT]at hs
     split at hs
     ·rename_i v o qF
      cases hs
      refine⟨rfl,fun h'=>?_⟩
      simp only[j9,iC,e1,e2,qF]
      rw[hb]
      rfl
     ·cases hs
   ·cases hs
   ·cases hs
 |append rk sz b x y=>
  cases rk with
  |none=>exact fK (fun _=>rfl) rfl
  |some rk=>
   simp only[j9,zj]at hs
   split at hs
   ·rename_i cK vy e1 e2
    cases fY:((kg e x).isSome&&Gy sz cK)with
    |false=>simp[fY]at hs
    |true=>
     simp only[fY,cT]at hs
     split at hs
     ·rename_i ys cy
      cases cY:(Mi ys.length 1073741824&&Mi b 4096&&Ga 0 sz)with
      |false=>simp[cY]at hs
      |true=>
       simp only[cY,cT]at hs
       split at hs
       ·rename_i h' hn
        cases hs
        refine⟨_,hn,fun g g3 hg=>?_⟩
        simp only[j9,zj,e1,e2,fY,cy,cY,cT]
        rw[show qw.cA (.append (Ef rk) sz b x y)=rk from rfl]at hg
        rw[hg];rfl
       ·cases hs
     ·cases hs
   ·cases hs
 |gH rk sz bt x y=>
  simp only[j9,zj]at hs
  split at hs
  ·rename_i SI vy e1 e2
   split at hs
   ·rename_i ys cy
    cases hk:(Mi ys.length 1073741824&&Mi bt 4096&&Ga 0 sz&&!ys.isEmpty&&zu 0 ys&&Ga rk 1000)with
    |false=>rw[hk]at hs;cases hs
    |true=>
     rw[hk]at hs
     simp only[cT]at hs
     split at hs
     ·rename_i h' cZ
      obtain rfl:=zx hs
      obtain⟨i1,i2⟩:=lv cZ
      have hrk:rk<1000:=by simp only[En]at hk;exact E6.mp hk.2
      have m1:(rk+1000*sz) % 1000=rk:=by omega
      have m2:(rk+1000*sz) / 1000=sz:=by omega
      refine⟨h0+rk,.vec sz 0 ys,.hole,.inl ⟨by show _=h0+(rk+1000*sz) % 1000;rw[m1],rfl⟩,i1,i2,by show Ef sz=Ef ((rk+1000*sz) / 1000);rw[m2],fun g hg=>?_⟩
      simp only[j9,zj,e1,e2,cy,hk,cT,aJ,hg]
      rfl
     ·cases hs
   ·cases hs
  ·rename_i b bz len vy e1 e2
   split at hs
   ·rename_i cK df xs gd
    split at hs
    ·rename_i ys cy
     cases hk:(Gy bz df&&Gy sz cK&&Mi len xs.length&&Mi (len+ys.length) 1073741824&&Mi bt 4096&&Ga 0 sz&&zu 0 ys&&Ga rk 1000)with
     |false=>rw[hk]at hs;cases hs
     |true=>
      rw[hk]at hs
      simp only[cT]at hs
      split at hs
      ·rename_i h' bq
       obtain rfl:=zx hs
       have eC:=hk
       simp only[En]at eC
       obtain⟨⟨⟨⟨⟨⟨⟨_,k2⟩,_⟩,_⟩,_⟩,_⟩,_⟩,k8⟩:=eC
       have cD:=E3 k2
       have hrk:rk<1000:=E6.mp k8
       have m2:(rk+1000*sz) / 1000=sz:=by omega
       have aY:b<h.length:=by unfold y5 at gd;exact(E0.1 gd).1
       have hh:h'=h.set b (.vec sz (bz+1) (xs.take len++ys)):=by
        unfold yl at bq
        rw[E6.mpr aY]at bq
        simpa using bq.symm
       refine⟨b,.vec sz (bz+1) (xs.take len++ys),.vec cK df xs,.inr (by show Ef cK=Ef ((rk+1000*sz) / 1000);rw[m2,cD]),gd,hh,by show Ef sz=Ef ((rk+1000*sz) / 1000);rw[m2],fun g hg=>?_⟩
       have iQ:y5 g b=Ef (.vec cK df xs):=hg
       have vu:b<g.length:=(E0.1 hg).1
       simp only[j9,zj,e1,e2,iQ,cy,hk,cT,yl,E6.mpr vu]
       rfl
      ·cases hs
    ·cases hs
   ·cases hs
  ·cases hs
 |gI rk sz n z ps=>trivial
 |bW rk sz b z n c=>
  cases rk with
  |none=>exact fK (fun _=>rfl) rfl
  |some rk=>
   simp only[j9,zj]at hs
   split at hs
   ·rename_i n' c' e1 e2
    cases hk:(Gy n' c'&&Mi n' 1073741824&&Mi b 4096&&Gy z.length sz&&Ga 0 sz&&z.all ze)with
    |false=>simp[hk]at hs
    |true=>
     simp only[hk,cT]at hs
     split at hs
     ·rename_i h' hn
      have h1:=zx hs
      refine⟨_,by rw[h1];exact hn,fun g g3 hg=>?_⟩
      simp only[j9,zj,e1,e2,hk,cT]
      rw[show qw.cA (.bW (Ef rk) sz b z n c)=rk from rfl]at hg
      rw[hg,h1];rfl
     ·cases hs
   ·cases hs
 |lookup kd z ok x y=>
  simp only[j9,gW]at hs
  split at hs
  ·rename_i b kv e1 e2
   cases hk:yv h0 al b with
   |false=>simp[hk]at hs
   |true=>
    simp only[hk,cT]at hs
    split at hs
    ·rename_i es hb
     have iQ:∀h':j8,(∀b,yv h0 al b=E1→(oT al=E1→nV h[b]?=E1)→h'[b]?=h[b]?)→y5 h' b=Ef (.map es):=fun h' cL=>by
      have Tj:=Dy hb rfl
      unfold y5 at hb ⊢;rw[cL b hk fun _=>Tj,hb]
     split at hs
     ·rename_i i v hf
      refine⟨(lZ (h':=h) hs).1,fun h' cL=>?_⟩
      simp only[j9,gW,e1,e2,hk,cT,iQ h' cL,hf]
      exact(lZ (h':=h') hs).2
     ·rename_i hf
      refine⟨(lZ (h':=h) hs).1,fun h' cL=>?_⟩
      simp only[j9,gW,e1,e2,hk,cT,iQ h' cL,hf]
      exact(lZ (h':=h') hs).2
     ·cases hs
    ·cases hs
  ·rename_i kv e1 e2
   refine⟨(lZ (h':=h) hs).1,fun h' cL=>?_⟩
   simp only[j9,gW,e1,e2]
   exact(lZ (h':=h') hs).2
  ·cases hs
 |mapUpdate kd x y z=>
  simp only[j9,zj]at hs
  split at hs
  ·rename_i b kv v e1 e2 e3
   cases hk:yv h0 al b with
   |false=>simp[hk]at hs
   |true=>
    simp only[hk,cT]at hs
    split at hs
    ·rename_i es hb
     have iQ:∀h':j8,h'[b]?=h[b]?→y5 h' b=Ef (.map es):=fun h' cL=>by
      unfold y5 at hb ⊢;rw[cL,hb]
     split at hs
     ·rename_i i u hf
      split at hs
      ·rename_i h' bq
       have h1:=zx hs
       refine⟨b,_,hk,Dy hb rfl,rfl,by rw[h1];exact bq,fun g g3 eV hg=>?_⟩
       simp only[j9,zj,e1,e2,e3,hk,cT,iQ g eV,hf,hg,h1]
       rfl
      ·cases hs
     ·rename_i hf
      cases hl:Mi es.length 1073741824 with
      |false=>simp[hl]at hs
      |true=>
       simp only[hl,cT]at hs
       split at hs
       ·rename_i h' bq
        have h1:=zx hs
        refine⟨b,_,hk,Dy hb rfl,rfl,by rw[h1];exact bq,fun g g3 eV hg=>?_⟩
        simp only[j9,zj,e1,e2,e3,hk,cT,iQ g eV,hf,hl,hg,h1]
        rfl
       ·cases hs
     ·cases hs
    ·cases hs
  ·cases hs
 |delete kd x y=>
  simp only[j9,zj]at hs
  split at hs
  ·rename_i b kv e1 e2
   cases hk:yv h0 al b with
   |false=>simp[hk]at hs
   |true=>
    simp only[hk,cT]at hs
    split at hs
    ·rename_i es hb
     have iQ:∀h':j8,h'[b]?=h[b]?→y5 h' b=Ef (.map es):=fun h' cL=>by
      unfold y5 at hb ⊢;rw[cL,hb]
     split at hs
     ·rename_i rr hf
      split at hs
      ·rename_i h' bq
       have h1:=zx hs
       refine⟨b,_,hk,Dy hb rfl,rfl,by rw[h1];exact bq,fun g g3 eV hg=>?_⟩
       simp only[j9,zj,e1,e2,hk,cT,iQ g eV,hf,hg,h1]
       rfl
      ·cases hs
     ·cases hs
    ·cases hs
  ·cases hs
 |copy sz x y=>
  simp only[j9,zj]at hs
  split at hs
  ·rename_i b o len vy e1 e2
   cases hk:yv h0 al b with
   |false=>simp[hk]at hs
   |true=>
    simp only[hk,cT]at hs
    split at hs
    ·rename_i cs hcs
     split at hs
     ·rename_i n us cy
      split at hs
      ·rename_i dV bU
       cases cY:Gy us.length (n*sz)with
       |false=>simp[cY]at hs
       |true=>
        simp only[cY,cT]at hs
        split at hs
        ·rename_i h' bq
         have h1:=zx hs
         refine⟨b,_,hk,FQ hcs,rfl,by rw[h1];exact bq,fun g g3 hb hg=>?_⟩
         simp only[j9,zj,e1,e2,hk,cT,FR hb,hcs,cy,bU,cY,hg,h1]
         rfl
        ·cases hs
      ·cases hs
     ·cases hs
    ·cases hs
  ·cases hs
 |eR x=>
  simp only[j9,zj]at hs
  split at hs
  ·rename_i b hv
   cases hk:yv h0 al b with
   |false=>simp[hk]at hs
   |true=>
    simp only[hk,cT]at hs
    split at hs
    ·rename_i s pos hb
     have aY:b<h.length:=by unfold y5 at hb;exact(E0.1 hb).1
     cases hp:Ga pos s.length with
     |true=>
      simp only[hp,cT]at hs
      split at hs
      ·rename_i h' bq
       have h1:=zx hs
       refine⟨b,_,hk,Dy hb rfl,rfl,by rw[h1];exact bq,fun g g3 eV hg=>?_⟩
       have iQ:y5 g b=Ef (.iter s pos):=by unfold y5 at hb ⊢;rw[eV,hb]
       simp only[j9,zj,hv,hk,cT,iQ,hp,hg,h1]
       rfl
      ·cases hs
     |false=>
      simp only[hp,cond_false]at hs
      have h1:=zx hs
      have FT:h.set b (.iter s pos)=h:=by
       unfold y5 at hb
       apply Mw
       intro k
       rw[R9]
       split
       ·rename_i hbk;subst hbk;first|exact hb.symm|rw[if_pos aY,hb]
       ·rfl
      refine⟨b,.iter s pos,hk,Dy hb rfl,rfl,by rw[h1];unfold yl;rw[E6.mpr aY];simp[FT],fun g g3 eV hg=>?_⟩
      have iQ:y5 g b=Ef (.iter s pos):=by unfold y5 at hb ⊢;rw[eV,hb]
      have vu:b<g.length:=by unfold y5 at iQ;exact(E0.1 iQ).1
      have Ad:g3=g:=by
       unfold yl at hg
       rw[E6.mpr vu]at hg
       simp only[cT,Ef.injEq]at hg
       rw[←hg]
       unfold y5 at iQ
       apply Mw
       intro k
       rw[R9]
       split
       ·rename_i hbk;subst hbk;first|exact iQ.symm|rw[if_pos vu,iQ]
       ·rfl
      simp only[j9,zj,hv,hk,cT,iQ,hp,cond_false,h1,Ad]
      rfl
    ·cases hs
  ·cases hs
 |_=>exact fK (fun _=>rfl) rfl
theorem xf {h h':j8}{b:Nat}{x:qn}(hs:yl h b x=Ef h'):b<h.length∧h'=h.set b x:=by
 unfold yl at hs
 cases hb:Ga b h.length with
 |false=>simp[hb]at hs
 |true=>exact⟨E6.mp hb,by simpa[hb]using hs.symm⟩
theorem Ae {h:j8}{b:Nat}{x:qn}(hb:b<h.length):yl h b x=Ef (h.set b x):=by
 unfold yl
 rw[E6.mpr hb];rfl
theorem Dz {h:j8}{k:Nat}{x:qn}(hh:h[h0+k]?=Ef .hole):aJ h0 h k x=Ef (h.set (h0+k) x):=by
 unfold aJ;rw[hh]
theorem DA {b k:Nat}(h:yv h0 al b=E1)(hk:mC al k=E4):b≠h0+k:=by
 intro hb
 subst hb
 cases al with
 |none=>simp[mC]at hk
 |some l=>
  simp only[yv,mC]at h hk
  have h1:Ga (h0+k) h0=E4:=by
   cases hh:Ga (h0+k) h0 with
   |false=>rfl
   |true=>have:=E6.mp hh;omega
  cases he:n5 l with
  |false=>
   rw[he]at h hk
   simp only[cond_false]at h hk
   rw[h1,Mj,show h0+k-h0=k from by omega,hk]at h
   cases h
  |true=>
   rw[he]at h hk
   simp only[cT]at h hk
   cases l with
   |nil=>cases he
   |cons x l=>
    simp only[yW]at h
    cases hx:Ga x 2000 with
    |true=>rw[hx]at h;simp only[cT,h1,Bool.and_false]at h;cases h
    |false=>
     rw[hx]at h
     simp only[cond_false]at h
     cases hx4:Ga x 4000 with
     |false=>rw[hx4]at h;simp only[cond_false,h1]at h;cases h
     |true=>
      rw[hx4]at h
      simp only[cT]at h
      have h2:=E3 h
      have h3:¬x<2000:=fun hh=>by rw[E6.mpr hh]at hx;cases hx
      have h4:x=2000+k:=by omega
      rw[show(x::l).headD 0=x from rfl,h4,R5]at hk
      cases hk
theorem qq0 {l:List Nat}{x:Nat}(h:(!(l.contains x))=E1):l.contains x=E4:=by
 cases hc:l.contains x with
 |false=>rfl
 |true=>rw[hc]at h;cases h
theorem Tk {Tl Tm:Option (List Nat)}{b b':Nat}(h:Dj Tl Tm=E1)(h1:yv h0 Tl b=E1)(h2:yv h0 Tm b'=E1):b≠b':=by
 intro hb
 subst hb
 cases Tl with
 |none=>cases h
 |some l=>
  cases Tm with
  |none=>cases h
  |some m=>
   simp only[Dj,yv]at h h1 h2
   have inv:∀ {k:List Nat},n5 k=E1→Ga (k.headD 0) 4000=E1→yW h0 k b=E1→(1000≤k.headD 0)∧((k.headD 0<2000∧b=k.headD 0-1000∧b<h0)∨(2000≤k.headD 0∧b=h0+(k.headD 0-2000))):=by
    intro k he h4 hq
    cases k with
    |nil=>cases he
    |cons x k=>
     refine⟨Mu he,?_⟩
     simp only[yW]at hq
     cases hx:Ga x 2000 with
     |true=>
      rw[hx]at hq
      simp only[cT,En]at hq
      exact .inl ⟨E6.mp hx,E3 hq.1,E6.mp hq.2⟩
     |false=>
      rw[hx,show Ga x 4000=E1 from h4]at hq
      simp only[cond_false,cT]at hq
      have h3:¬x<2000:=fun hh=>by rw[E6.mpr hh]at hx;cases hx
      exact .inr ⟨by show 2000≤x;omega,E3 hq⟩
   have old:∀ {k:List Nat} {r:Nat},b=h0+r→k.contains r=E4→(Ga b h0||k.contains (b-h0))=E1→False:=by
    intro k r hE hc hq
    have h3:Ga b h0=E4:=by
     cases hh:Ga b h0 with
     |false=>rfl
     |true=>have:=E6.mp hh;omega
    rw[h3,Mj,show b-h0=r by omega,hc]at hq
    cases hq
   cases hl:n5 l with
   |true=>
    rw[hl]at h h1
    simp only[cT]at h h1
    cases hm:n5 m with
    |true=>
     rw[hm]at h h2
     simp only[cT,En]at h h2
     obtain⟨i1,i2⟩:=inv hl h.1.2 h1
     obtain⟨i3,i4⟩:=inv hm h.2 h2
     have bA:l.headD 0≠m.headD 0:=fun e=>by rw[e,R5]at h;exact absurd h.1.1 (by simp)
     omega
    |false=>
     rw[hm]at h h2
     simp only[cond_false,En]at h h2
     obtain⟨i1,i2⟩:=inv hl h.1.2 h1
     have h3:=Mu h.1.1
     exact old (by omega) (qq0 h.2) h2
   |false=>
    rw[hl]at h h1
    simp only[cond_false,En]at h h1
    obtain⟨⟨⟨h3,h4⟩,h6⟩,h5⟩:=h
    rw[h3]at h2
    simp only[cT]at h2
    obtain⟨i3,i4⟩:=inv h3 h6 h2
    have h4:=Mu h4
    exact old (by omega) (qq0 h5) h1
theorem Tn {F:j8→Option qq}{h:j8}{r:qq}{k:Nat}(H:HB h0 al F h r .take k):HB h0 al F h r .write k:=by
 obtain⟨b,cs,v,o,hb,hc,hv,hs,h4⟩:=H
 have aY:b<h.length:=(E0.1 hc).1
 refine⟨b,.cells (cs.set k (v,E4)),hb,by rw[hc];rfl,rfl,by rw[hs];exact Ae aY,fun h' h3 hh bq=>?_⟩
 rw[h4 h' cs (by rw[hh];exact hc) hv]
 obtain⟨_,s2⟩:=xf bq
 rw[s2]
theorem je9 {ca cb:jq}{ka kb:Nat}{pf pg:Option (List Nat)}{Fa Fb:j8→Option qq}{h:j8}{ra rb:qq}(xg:Fb h=Ef rb)(FU:Fa rb.heap=Ef ra)(Hb:HB h0 pg Fb h rb cb kb)(Ha:HB h0 pf Fa rb.heap ra ca ka)
  (dB:cb=.read∨cb=.write∨cb=.take) (dK:ca=.read∨ca=.write∨ca=.take) (qH:Dj pg pf=E1):
  ∃h1,Fa h=Ef (ra.at h1)∧Fb h1=Ef (rb.at ra.heap):=by
 have hat:∀r:qq,r.at r.heap=r:=fun _=>rfl
 have wb:(cb=.read∧HB h0 pg Fb h rb .read kb)∨HB h0 pg Fb h rb .write kb:=by
  rcases dB with rfl|rfl|rfl
  ·exact .inl ⟨rfl,Hb⟩
  ·exact .inr Hb
  ·exact .inr (Tn Hb)
 have wa:(ca=.read∧HB h0 pf Fa rb.heap ra .read ka)∨HB h0 pf Fa rb.heap ra .write ka:=by
  rcases dK with rfl|rfl|rfl
  ·exact .inl ⟨rfl,Ha⟩
  ·exact .inr Ha
  ·exact .inr (Tn Ha)
 rcases wb with⟨_,h1,h2⟩|⟨b,x,hb,_,_,hs,h2⟩
 ·rcases wa with⟨_,h3,h4⟩|⟨b',y,eV,_,_,gA,h4⟩
  ·exact⟨h,h4 h (fun b _ _=>by rw[h1]),by rw[h3,hat];exact xg⟩
  ·rw[h1]at gA
   obtain⟨s1,s2⟩:=xf gA
   refine⟨ra.heap,by rw[hat,←FU,h1],h2 _ (fun b hb _=>?_)⟩
   rw[s2,I (Gb (Tk qH hb eV))]
 ·obtain⟨s1,s2⟩:=xf hs
  rcases wa with⟨_,h3,h4⟩|⟨b',y,eV,_,_,gA,h4⟩
  ·refine⟨h,h4 h (fun b' eV _=>?_),by rw[h3,hat];exact xg⟩
   rw[s2,I (Tk qH hb eV)]
  ·obtain⟨s3,s4⟩:=xf gA
   have bA:=Tk qH hb eV
   rw[s2,H6]at s3
   refine⟨h.set b' y,h4 _ _ (by rw[s2,I bA]) (Ae s3),h2 _ _ (by rw[I (Gb bA)]) ?_⟩
   rw[Ae (by rw[H6];exact s1),s4,s2,E7 _ _ (Gb bA)]
def Mz (ca cb:jq)(ka kb:Nat)(pf pg:Option (List Nat)):Prop:=
 (cb=.nB∧ca=.nB∧kb % 1000≠ka % 1000∧kb / 1000≠ka / 1000)∨(cb=.nB∧(ca=.read∨ca=.write∨ca=.take)∧oT pf=E1)∨((cb=.read∨cb=.write∨cb=.take)∧ca=.nB∧oT pg=E1)
theorem jr4 {ca cb:jq}{ka kb:Nat}{pf pg:Option (List Nat)}{Fa Fb:j8→Option qq}{h:j8}{ra rb:qq}(xg:Fb h=Ef rb)(FU:Fa rb.heap=Ef ra)(Hb:HB h0 pg Fb h rb cb kb)(Ha:HB h0 pf Fa rb.heap ra ca ka)
  (dj:Mz ca cb ka kb pf pg):∃h1,Fa h=Ef (ra.at h1)∧Fb h1=Ef (rb.at ra.heap):=by
 have hat:∀r:qq,r.at r.heap=r:=fun _=>rfl
 have FV:∀ {c:jq} {k:Nat} {al:Option (List Nat)} {F:j8→Option qq} {g:j8} {r:qq},HB h0 al F g r c k→(c=.read∨c=.write∨c=.take)→HB h0 al F g r .read k∨HB h0 al F g r .write k:=by
  intro c k al F g r H hc
  rcases hc with rfl|rfl|rfl
  ·exact .inl H
  ·exact .inr H
  ·exact .inr (Tn H)
 have nvs:∀ {x:qn} {z:Nat},Ti x=Ef z→nV (Ef x)=E4:=fun {x z} h=>by cases x<;>first|rfl|cases h
 rcases dj with⟨rfl,rfl,n1,n2⟩|⟨rfl,dK,hs⟩|⟨dB,rfl,hs⟩
 ·obtain⟨q,x,y,hq,hy,hh,hx,hF⟩:=Hb
  obtain⟨q',x',y',Mt,zO,Tp,fh,hF'⟩:=Ha
  have aY:q<h.length:=(E0.1 hy).1
  have bA:q≠q':=by
   intro he
   subst he
   rw[hh,Ge aY]at zO
   cases zO
   rcases Mt with⟨_,rfl⟩|h4
   ·cases hx
   ·rw[hx]at h4;exact n2 (Ef.inj h4)
  rw[hh,I bA]at zO
  refine⟨h.set q' x',hF' h zO,?_⟩
  rw[hF _ (by rw[I (Gb bA)];exact hy),Tp,hh,E7 _ _ bA]
 ·obtain⟨q,x,y,hq,hy,hh,hx,hF⟩:=Hb
  have aY:q<h.length:=(E0.1 hy).1
  -- the box that the append wrote is a vector now
  have cZ:nV rb.heap[q]?=E4:=by rw[hh,Ge aY];exact nvs hx
  rcases FV Ha dK with⟨h3,h4⟩|⟨b,z,hb,hn,Tq,hz,h4⟩
  ·refine⟨h,h4 h (fun b hb hn=>?_),by rw[h3,hat];exact xg⟩
   have bA:b≠q:=fun e=>by subst e;rw[hn hs]at cZ;cases cZ
   rw[hh,I (Gb bA)]
  ·have bA:b≠q:=fun e=>by subst e;rw[hn]at cZ;cases cZ
   obtain⟨s1,s2⟩:=xf hz
   rw[hh,H6]at s1
   refine⟨h.set b z,h4 _ _ (by rw[hh,I (Gb bA)]) (Ae s1),?_⟩
   rw[hF _ (by rw[I bA];exact hy),s2,hh,E7 _ _ bA]
 ·obtain⟨q,x,y,hq,hy,hh,hx,hF⟩:=Ha
  have hold:nV (Ef y)=E4:=by
   rcases hq with⟨_,rfl⟩|h1
   ·rfl
   ·exact nvs h1
  rcases FV Hb dB with⟨h3,h4⟩|⟨b,z,hb,hn,Tq,hz,h4⟩
  ·rw[h3]at hy hh
   refine⟨h.set q x,hF h hy,?_⟩
   rw[h4 (h.set q x) (fun b hb hn=>by
    have bA:b≠q:=fun e=>by subst e;rw[hy]at hn;rw[hold]at hn;exact absurd (hn hs) (by simp)
    rw[I (Gb bA)]),hh]
  ·obtain⟨s1,s2⟩:=xf hz
   have bA:b≠q:=by
    intro e
    subst e
    rw[s2,Ge s1]at hy
    rw[Ef.inj hy,hold]at Tq
    cases Tq
   rw[s2,I bA]at hy
   refine⟨h.set q x,hF h hy,h4 _ _ (by rw[I (Gb bA)]) ?_⟩
   rw[Ae (by rw[H6];exact s1),hh,s2,E7 _ _ (Gb bA)]
theorem jnl {ca cb:jq}{ka kb:Nat}{pf pg:Option (List Nat)}{Fa Fb:j8→Option qq}{h:j8}{ra rb:qq}(xg:Fb h=Ef rb)(FU:Fa rb.heap=Ef ra)(Hb:HB h0 pg Fb h rb cb kb)(Ha:HB h0 pf Fa rb.heap ra ca ka)
  (dj:cb=.pure∨ca=.pure∨(cb=.read∧ca=.read)∨(cb=.alloc∧ca=.alloc∧kb≠ka)∨(cb=.alloc∧(ca=.read∨ca=.write∨ca=.take)∧mC pf kb=E4)∨((cb=.read∨cb=.write∨cb=.take)∧ca=.alloc∧mC pg ka=E4)∨(cb=.take∧ca=.take∧kb≠ka)):
  ∃h1,Fa h=Ef (ra.at h1)∧Fb h1=Ef (rb.at ra.heap):=by
 have hat:∀r:qq,r.at r.heap=r:=fun _=>rfl
 rcases dj with rfl|rfl|⟨rfl,rfl⟩|⟨rfl,rfl,bA⟩|⟨rfl,dK,og⟩|⟨dB,rfl,og⟩|⟨rfl,rfl,bA⟩
 ·obtain⟨h1,h2⟩:=Hb
  exact⟨ra.heap,by rw[hat,←FU,h1],h2 _⟩
 ·obtain⟨h1,h2⟩:=Ha
  exact⟨h,h2 _,by rw[h1,hat];exact xg⟩
 ·obtain⟨h1,h2⟩:=Hb
  obtain⟨h3,h4⟩:=Ha
  exact⟨h,h4 h (fun b _ _=>by rw[h1]),by rw[h3,hat];exact xg⟩
 ·obtain⟨x,n1,n2⟩:=Hb
  obtain⟨y,n3,n4⟩:=Ha
  obtain⟨i1,i2⟩:=lv n1
  obtain⟨i3,i4⟩:=lv n3
  rw[i2,I (by omega)]at i3
  refine⟨h.set (h0+ka) y,n4 _ _ (Dz i3),n2 _ _ ?_⟩
  rw[Dz (by rw[I (by omega)];exact i1),i4,i2,E7 _ _ (by omega)]
 ·obtain⟨x,n1,n2⟩:=Hb
  obtain⟨i1,i2⟩:=lv n1
  rcases dK with rfl|rfl|rfl
  ·obtain⟨h3,h4⟩:=Ha
   refine⟨h,h4 h (fun b hb _=>?_),by rw[h3,hat];exact xg⟩
   rw[i2,I (Gb (DA hb og))]
  ·obtain⟨b,y,hb,_,_,hs,h4⟩:=Ha
   obtain⟨s1,s2⟩:=xf hs
   have bA:=DA hb og
   rw[i2,H6]at s1
   refine⟨h.set b y,h4 _ _ (by rw[i2,I (Gb bA)]) (Ae s1),n2 _ _ ?_⟩
   rw[Dz (by rw[I bA];exact i1),s2,i2,E7 _ _ bA]
  ·obtain⟨b,cs,v,o,hb,hc,hv,hs,h4⟩:=Ha
   have bA:=DA hb og
   rw[i2,I (Gb bA)]at hc
   refine⟨_,h4 _ _ hc hv,n2 _ _ ?_⟩
   rw[Dz (by rw[I bA];exact i1),hs,i2,E7 _ _ bA]
 ·obtain⟨y,n3,n4⟩:=Ha
  obtain⟨i3,i4⟩:=lv n3
  rcases dB with rfl|rfl|rfl
  ·obtain⟨h1,h2⟩:=Hb
   refine⟨ra.heap,by rw[hat,←FU,h1],h2 _ (fun b hb _=>?_)⟩
   rw[i4,h1,I (Gb (DA hb og))]
  ·obtain⟨b,x,hb,_,_,hs,h2⟩:=Hb
   obtain⟨s1,s2⟩:=xf hs
   have bA:=DA hb og
   rw[s2,I bA]at i3
   refine⟨h.set (h0+ka) y,n4 _ _ (Dz i3),h2 _ _ (by rw[I (Gb bA)]) ?_⟩
   rw[Ae (by rw[H6];exact s1),i4,s2,E7 _ _ (Gb bA)]
  ·obtain⟨b,cs,v,o,hb,hc,hv,hs,h2⟩:=Hb
   have bA:=DA hb og
   rw[hs,I bA]at i3
   refine⟨h.set (h0+ka) y,n4 _ _ (Dz i3),?_⟩
   rw[h2 _ cs (by rw[I (Gb bA)];exact hc) hv,i4,hs,E7 _ _ (Gb bA)]
 ·obtain⟨b,cs,v,o,hb,hc,hv,hs,h2⟩:=Hb
  obtain⟨b',dV,v',o',eV,dC,Af,gA,h4⟩:=Ha
  have aY:b<h.length:=(E0.1 hc).1
  by_cases DB:b'=b
  ·subst DB
   rw[hs,Ge aY]at dC
   cases dC
   rw[I bA]at Af
   refine⟨h.set b' (.cells (cs.set ka (v',E4))),h4 h cs hc Af,?_⟩
   rw[h2 _ (cs.set ka (v',E4)) (by rw[Ge aY]) (by rw[I (Gb bA)];exact hv),gA,hs]
   simp only[List.set_set]
   rw[E7 _ _ bA]
  ·rw[hs,I (Gb DB)]at dC
   refine⟨h.set b' (.cells (dV.set ka (v',E4))),h4 h dV dC Af,?_⟩
   rw[h2 _ cs (by rw[I DB];exact hc) hv,gA,hs,E7 _ _ DB]
end
section
variable {p:qt}{xc:XC}{h0:Nat}
def lD (p:qt)(xc:XC)(h0:Nat)(o:qv)(e:Env)(h:j8):Option qq:=
 match mf e o.guard with
 |some E1=>j9 p xc h0 o.al e h o.op
 |some E4=>Ef ⟨.undef,E4,none,h⟩
 |none=>none
def ph (o:qv)(e:Env)(r:qq):Env:=nz (kz e r.strip) o.dst r.v r.own
theorem DC (o:qv)(st:qg):iD p xc h0 o st=(lD p xc h0 o st.env st.heap).map fun r=>⟨ph o st.env r,r.heap⟩:=by
 unfold iD lD
 cases hg:mf st.env o.guard with
 |none=>rfl
 |some b=>
  cases b with
  |false=>rfl
  |true=>
   simp only[]
   cases j9 p xc h0 o.al st.env st.heap o.op<;>rfl
theorem q02 {e e':Env}{g:Option (Nat×Bool)}(h:Agree (match g with|some g=>[g.1]|none=>[]) e e'):mf e g=mf e' g:=by
 cases g with
 |none=>rfl
 |some g=>simp only[mf,h g.1 (by simp)]
theorem Ts {o:qv}{e e':Env}{h:j8}(ha:Agree o.reads e e'):lD p xc h0 o e h=lD p xc h0 o e' h:=by
 have h1:Agree o.op.reads e e':=(Agree.app ha).1
 have h2:=(Agree.app ha).2
 simp only[lD,q02 h2,q33 h1]
theorem q5m {h0 r:Nat}{h:j8}{v:qa}{o:Bool}{res:qq}(hs:pH h0 h r v o=Ef res):res.strip=none:=by
 unfold pH at hs
 simp only[Gc,val]at hs
 repeat' split at hs
 all_goals first
  |(cases hs;done)
  |(cases hs;rfl)
theorem q1a {al:Option (List Nat)}{e:Env}{h:j8}{op:qw}{r:qq}(hs:j9 p xc h0 al e h op=Ef r){s:Nat}(hr:r.strip=Ef s):s∈op.fe:=by
 have own:∀ {x:qh},kg e x=Ef s→s∈yz x:=by
  intro x h
  obtain⟨rfl,_⟩:=E5 h
  simp[yz]
 have nK:∀ {x:qa},val h x=Ef r→False:=fun hv=>by rw[zx hv]at hr;cases hr
 have Ag:∀ {x:Option qa},fW h x=Ef r→False:=fun hv=>by obtain⟨_,_,h1⟩:=ul hv;rw[h1]at hr;cases hr
 cases op with
 |take t=>
  simp only[j9,zh]at hs
  split at hs
  ·cases hs;simp at hr;simp[qw.fe,hr]
  ·cases hs
 |append rk sz b x y=>
  cases rk with
  |some rk=>
   simp only[j9,zj,Gc]at hs
   repeat' split at hs
   all_goals first
    |(cases hs;done)
    |(cases hs;exact own hr)
  |none=>
   simp only[j9,zh,Gc]at hs
   repeat' split at hs
   all_goals first
    |(cases hs;done)
    |(cases hs;exact own hr)
 |store n x y=>
  simp only[j9,zj,Gc]at hs
  repeat' split at hs
  all_goals first
   |(cases hs;done)
   |exact(nK hs).elim
   |(rename_i ht _ _ _ _;cases hs;simp only[Ef.injEq]at hr;subst hr;exact own ht)
   |(unfold val at hs;cases hs;cases hr;done)
   |skip
 |bW rk sz b z n c=>
  cases rk with
  |some rk=>
   simp only[j9,zj,Gc]at hs
   repeat' split at hs
   all_goals first
    |(cases hs;done)
    |exact(nK hs).elim
    |(unfold val at hs;cases hs;cases hr;done)
  |none=>
   simp only[j9,zh,Gc]at hs
   repeat' split at hs
   all_goals first
    |(cases hs;done)
    |(cases hs;cases hr;done)
 |call md f l=>
  cases md<;>simp only[j9,iC,Gc]at hs
  all_goals
   repeat' split at hs
  all_goals first
   |(cases hs;done)
   |exact(nK hs).elim
   |(cases hs;cases hr;done)
   |(rw[q5m hs]at hr;cases hr;done)
 |_=>
  simp only[j9,zh,gW,zj,Gc]at hs
  repeat' split at hs
  all_goals first
   |(cases hs;done)
   |exact(nK hs).elim
   |exact(Ag hs).elim
   |(cases hs;cases hr;done)
   |(unfold val at hs;cases hs;cases hr;done)
theorem qxk {o:qv}{e:Env}{h:j8}{r:qq}(hs:lD p xc h0 o e h=Ef r){s:Nat}(hr:r.strip=Ef s):s∈o.op.fe:=by
 unfold lD at hs
 split at hs
 ·exact q1a hs hr
 ·cases hs;cases hr
 ·cases hs
theorem DE {s:Nat}{x:qa×Bool}{e:Env}:yd s ((s,x)::e)=Ef x:=by
 simp only[yd,R5,cT]
theorem MA {s t:Nat}{x:qa×Bool}{e:Env}(h:s≠t):yd s ((t,x)::e)=yd s e:=by
 have:Gy t s=E4:=by
  cases hb:Gy t s with
  |false=>rfl
  |true=>exact absurd (E3 hb).symm h
 simp only[yd,this,cond_false]
theorem Tt {s:Nat}{e:Env}{x:Option Nat}(h:∀t,x=Ef t→s≠t):yd s (kz e x)=yd s e:=by
 cases x with
 |none=>rfl
 |some t=>
  simp only[kz]
  split
  ·exact MA (h t rfl)
  ·rfl
theorem qut {s:Nat}{e e':Env}{x:Option Nat}(h:yd s e=yd s e'):yd s (kz e x)=yd s (kz e' x):=by
 cases x with
 |none=>exact h
 |some t=>
  by_cases bU:s=t
  ·subst bU
   simp only[kz]
   rw[←h]
   cases hl:yd s e with
   |none=>simp only[];rw[hl,←h,hl]
   |some y=>simp only[];rw[DE,DE]
  ·rw[Tt (fun u hu=>by cases hu;exact bU),Tt (fun u hu=>by cases hu;exact bU)]
   exact h
theorem Tv {s:Nat}{e:Env}{d:Option Nat}{v:qa}{o:Bool}(h:∀t,d=Ef t→s≠t):yd s (nz e d v o)=yd s e:=by
 cases d with
 |none=>rfl
 |some t=>exact MA (h t rfl)
theorem qzy {s:Nat}{e e':Env}{d:Option Nat}{v:qa}{o:Bool}(h:yd s e=yd s e'):yd s (nz e d v o)=yd s (nz e' d v o):=by
 cases d with
 |none=>exact h
 |some t=>
  by_cases bU:s=t
  ·subst bU;simp only[nz];rw[DE,DE]
  ·rw[Tv (fun u hu=>by cases hu;exact bU),Tv (fun u hu=>by cases hu;exact bU)];exact h
theorem Tw {o:qv}{s:Nat}{e e':Env}{r:qq}(h:yd s e=yd s e'):yd s (ph o e r)=yd s (ph o e' r):=qzy (qut h)
theorem DF {o:qv}{s:Nat}{e:Env}{r:qq}(hr:∀t,r.strip=Ef t→t∈o.op.fe)(h:s ∉ o.writes):yd s (ph o e r)=yd s e:=by
 unfold ph
 rw[Tv,Tt]
 ·intro t ht bU
  exact h (Ny _ (bU▸hr t ht))
 ·intro t ht bU
  exact h (N1 _ (by rw[ht,bU];simp))
theorem jc8 {o:qv}{e:Env}{r:qq}{h:j8}:ph o e (r.at h)=ph o e r:=rfl
def iR (a b:qg):Prop:=a.heap=b.heap∧∀s,yd s a.env=yd s b.env
theorem iR.refl (a:qg):iR a a:=⟨rfl,fun _=>rfl⟩
theorem iR.trans {a b c:qg}(h:iR a b)(k:iR b c):iR a c:=⟨h.1.trans k.1,fun s=>(h.2 s).trans (k.2 s)⟩
theorem qzg {o:qv}{a b a':qg}(h:iR a b)(hs:iD p xc h0 o a=Ef a'):∃b',iD p xc h0 o b=Ef b'∧iR a' b':=by
 rw[DC]at hs
 obtain⟨r,hr,rfl⟩:=Hq.1 hs
 rw[Ts (e':=b.env) (fun s _=>h.2 s),h.1]at hr
 refine⟨⟨ph o b.env r,r.heap⟩,by rw[DC,hr];rfl,rfl,fun s=>Tw (h.2 s)⟩
theorem qw8:∀ {l:List qv} {a b a':qg},iR a b→fG p xc h0 l a=Ef a'→∃b',fG p xc h0 l b=Ef b'∧iR a' b'
 | [],a,b,a',h,hs=>by simp only[fG,Ef.injEq]at hs ⊢;subst hs;exact⟨b,rfl,h⟩
 |o::l,a,b,a',h,hs=>by
  simp only[fG]at hs
  split at hs
  ·rename_i a1 h1
   obtain⟨b1,k1,k2⟩:=qzg h h1
   obtain⟨b',k3,k4⟩:=qw8 k2 hs
   exact⟨b',by simp only[fG,k1,k3],k4⟩
  ·cases hs
theorem jda {o:qv}{e:Env}{h:j8}{r:qq}(hs:lD p xc h0 o e h=Ef r):∃c k,HB h0 o.al (lD p xc h0 o e) h r c k∧(c=.pure∨(c=o.op.cl∧k=o.op.cA)):=by
 unfold lD at hs
 cases hg:mf e o.guard with
 |none=>rw[hg]at hs;cases hs
 |some b=>
  cases b with
  |false=>
   rw[hg]at hs
   cases hs
   exact⟨.pure,0,⟨rfl,fun h'=>by simp only[lD,hg];rfl⟩,.inl rfl⟩
  |true=>
   rw[hg]at hs
   have:=jc5 hs
   have heq:(fun h=>j9 p xc h0 o.al e h o.op)=lD p xc h0 o e:=by
    funext h;simp only[lD,hg]
   rw[heq]at this
   exact⟨_,_,this,.inr ⟨rfl,rfl⟩⟩
theorem q8h {a b:qv}(h:RX a b=E1):a.op.cl=.pure∨b.op.cl=.pure∨a.op.cl=.fb∨b.op.cl=.fb∨(a.op.cl=.read∧b.op.cl=.read)∨(a.op.cl=.alloc∧b.op.cl=.alloc∧a.op.cA≠b.op.cA) ∨
  (a.op.cl=.alloc∧(b.op.cl=.read∨b.op.cl=.write∨b.op.cl=.take)∧mC b.al a.op.cA=E4)∨((a.op.cl=.read∨a.op.cl=.write∨a.op.cl=.take)∧b.op.cl=.alloc∧mC a.al b.op.cA=E4)∨(a.op.cl=.take∧b.op.cl=.take∧a.op.cA≠b.op.cA)∨((a.op.cl=.read∨a.op.cl=.write∨a.op.cl=.take)∧(b.op.cl=.read∨b.op.cl=.write∨b.op.cl=.take)∧Dj a.al b.al=E1)∨Mz b.op.cl a.op.cl b.op.cA a.op.cA b.al a.al:=by
 unfold RX at h
 rw[Sm]at h
 rcases h with h|h
 ·simp only[En]at h
  obtain⟨⟨h1,h2⟩,h3⟩:=h
  have hb:∀ {c:jq},c.box=E1→c=.read∨c=.write∨c=.take:=fun {c} hc=>by cases c<;>first|(cases hc;done)|simp
  simp only[hb h1,hb h2,h3,and_self,or_true,true_or]
 unfold Mz
 cases ha:a.op.cl<;>cases hb:b.op.cl<;>simp_all
theorem Tx {a b:List Nat}(h:ES a b=E1){s:Nat}(hs:s∈a):s ∉ b:=by
 unfold ES at h
 rw[Gz]at h
 have:=h s hs
 simpa using this
theorem zbm {a b:qv}{st s1 s2:qg}(hm:zm b a=E1)(h1:iD p xc h0 b st=Ef s1)(h2:iD p xc h0 a s1=Ef s2):
  ∃t1 t2,iD p xc h0 a st=Ef t1∧iD p xc h0 b t1=Ef t2∧iR s2 t2:=by
 rw[DC]at h1
 obtain⟨rb,hb,rfl⟩:=Hq.1 h1
 rw[DC]at h2
 obtain⟨ra,ha,rfl⟩:=Hq.1 h2
 simp only[zm,En]at hm
 obtain⟨⟨⟨hc,d1⟩,d2⟩,d3⟩:=hm
 have sb:∀t,rb.strip=Ef t→t∈b.op.fe:=fun t ht=>qxk hb ht
 have sa:∀t,ra.strip=Ef t→t∈a.op.fe:=fun t ht=>qxk ha ht
 -- the later one reads nothing that the earlier one writes
 have MB:lD p xc h0 a st.env rb.heap=Ef ra:=by
  rw[←ha]
  refine Ts fun s hs=>(DF sb ?_).symm
  exact fun hw=>Tx d1 hw hs
 obtain⟨cb,kb,Hb,ob⟩:=jda hb
 obtain⟨ca,ka,Ha,oa⟩:=jda MB
 have qH:((cb=.read∨cb=.write∨cb=.take)∧(ca=.read∨ca=.write∨ca=.take)∧Dj b.al a.al=E1)∨(cb=.pure∨ca=.pure∨(cb=.read∧ca=.read)∨(cb=.alloc∧ca=.alloc∧kb≠ka)∨(cb=.alloc∧(ca=.read∨ca=.write∨ca=.take)∧mC a.al kb=E4)∨((cb=.read∨cb=.write∨cb=.take)∧ca=.alloc∧mC b.al ka=E4)∨(cb=.take∧ca=.take∧kb≠ka))∨Mz ca cb ka kb a.al b.al:=by
  rcases ob with rfl|⟨rfl,rfl⟩
  ·exact .inr (.inl (.inl rfl))
  rcases oa with rfl|⟨rfl,rfl⟩
  ·exact .inr (.inl (.inr (.inl rfl)))
  rcases q8h hc with h|h|h|h|h|h|h|h|h|h|h
  ·exact .inr (.inl (.inl h))
  ·exact .inr (.inl (.inr (.inl h)))
  ·rw[h]at Hb;exact Hb.elim
  ·rw[h]at Ha;exact Ha.elim
  ·exact .inr (.inl (.inr (.inr (.inl h))))
  ·exact .inr (.inl (.inr (.inr (.inr (.inl h)))))
  ·exact .inr (.inl (.inr (.inr (.inr (.inr (.inl h))))))
  ·exact .inr (.inl (.inr (.inr (.inr (.inr (.inr (.inl h)))))))
  ·exact .inr (.inl (.inr (.inr (.inr (.inr (.inr (.inr h)))))))
  ·exact .inl h
  ·exact .inr (.inr h)
 have hsw:∃h1,lD p xc h0 a st.env st.heap=Ef (ra.at h1)∧lD p xc h0 b st.env h1=Ef (rb.at ra.heap):=by
  rcases qH with⟨q1,q2,q3⟩|dj|dj
  ·exact je9 hb MB Hb Ha q1 q2 q3
  ·exact jnl hb MB Hb Ha dj
  ·exact jr4 hb MB Hb Ha dj
 obtain⟨h3,k1,k2⟩:=hsw
 have k2':lD p xc h0 b (ph a st.env (ra.at h3)) h3=Ef (rb.at ra.heap):=by
  rw[←k2]
  refine Ts fun s hs=>DF (fun t ht=>sa t ht) ?_
  exact fun hw=>Tx d3 hw hs
 refine⟨⟨ph a st.env (ra.at h3),h3⟩,⟨ph b (ph a st.env (ra.at h3)) (rb.at ra.heap),ra.heap⟩,by rw[DC,k1];rfl,by rw[DC];simp only[k2'];rfl,rfl,fun s=>?_⟩
 simp only[jc8]
 by_cases hw:s∈a.writes
 ·have Dv:s ∉ b.writes:=fun h=>Tx d2 h hw
  rw[DF sb Dv]
  exact Tw (DF sb Dv)
 ·rw[DF sa hw]
  exact Tw (DF sa hw).symm
theorem qxn:∀ {l1 l2:List qv} {a:qv} {st s2:qg},(∀b∈l1,zm b a=E1)→fG p xc h0 (l1++a::l2) st=Ef s2 →
  ∃t1 t2,iD p xc h0 a st=Ef t1∧fG p xc h0 (l1++l2) t1=Ef t2∧iR s2 t2
 | [],l2,a,st,s2,_,hs=>by
  simp only[List.nil_append,fG]at hs
  split at hs
  ·rename_i t1 h1;exact⟨t1,s2,h1,hs,iR.refl _⟩
  ·cases hs
 |b::l1,l2,a,st,s2,hm,hs=>by
  simp only[Sc,fG]at hs
  split at hs
  ·rename_i s h1
   obtain⟨u1,u2,h2,h3,h4⟩:=qxn (fun c hc=>hm c (by simp[hc])) hs
   obtain⟨t1,t2,h5,h6,h7⟩:=zbm (hm b (by simp)) h1 h2
   obtain⟨u3,h8,h9⟩:=qw8 h7 h3
   exact⟨t1,u3,h5,by simp only[Sc,fG,h6,h8],h4.trans h9⟩
  ·cases hs
end
def da (P:Program)(w0:World)(C0 C:ay)(nt:Nat)(st:qg)(a:Act)(w:World):Prop:=
 a.tmps.size=nt∧∃C' ω',C.le C'∧Marks C' w0.heap.size a.defers∧av P C' ω' w0 C0 st.heap w∧aj C' ω' w w0.heap.size st.env a.tmps
structure js (P:Program)(nt:Nat)(ops:Array Oper)(o:Oper)(ao:qv):Prop where
 op:∃h md r,(cx P h md r o.dst o.op).getD .bad=ao.op
 guard:Dh ops o.guard=Ef ao.guard
 dst:ao.dst=ao.op.wQ o.dst
 fits:∀d,o.dst=Ef d→d<nt
 vfits:∀d,ao.op.gJ=Ef d→d<nt
 FW:∀d,ao.op.gJ=Ef d→o.dst=none∧o.guard=none
section
variable {P:Program}{p:qt}{xc:XC}{C C0:ay}{w0:World}{nt h0:Nat}{ops:Array Oper}{ρ:Option Nat}
theorem da.eqv {st bL:qg}{a:Act}{w:World}(h:da P w0 C0 C nt st a w)(he:iR st bL):da P w0 C0 C nt bL a w:=by
 obtain⟨h1,C',ω',h3,h2,h4,h5⟩:=h
 exact⟨h1,C',ω',h3,h2,he.1▸h4,fun s x hx=>h5 s x (by rw[he.2 s];exact hx)⟩
theorem aj.putAt {ω:Nat→Option Loc}{w:World}{B d:Nat}{e:Env}{tmps:Array Value}{v:qa}{u:Value}{o:Bool}(he:aj C ω w B e tmps)(hd:d<tmps.size)(hr:bF C v u)(ho:o=E1→aF C ω w B (.slot d) v u):aj C ω w B ((d,v,o)::e) (tmps.setIfInBounds d u):=by
 intro s x hx
 by_cases Ty:s=d
 ·subst Ty
  rw[DE]at hx
  cases hx
  exact⟨u,by simp[hd],hr,ho⟩
 ·rw[MA Ty]at hx
  obtain⟨y,h1,h2,h3⟩:=he s x hx
  exact⟨y,by rw[Array.getElem?_setIfInBounds_ne (Gb Ty)];exact h1,h2,h3⟩
theorem jbw {ao:qv}{st:qg}{a:Act}{w:World}{C1:ay}{ω1:Nat→Option Loc}{e:Env}{h:j8}{v:qa}{u:Value}{own:Bool}{o:Oper}(hd:ao.dst=o.dst)(hf:∀d,o.dst=Ef d→d<nt)(hs:a.tmps.size=nt)(jZ:Marks C1 w0.heap.size a.defers)(hle:C.le C1)(m:av P C1 ω1 w0 C0 h w)(he:aj C1 ω1 w w0.heap.size e a.tmps)(hr:bF C1 v u)(ho:own=E1→aF C1 ω1 w w0.heap.size (.slot (o.dst.getD 0)) v u):
  da P w0 C0 C nt ⟨nz e ao.dst v own,h⟩ (a.put o.dst u) w:=by
 rw[hd]
 cases MC:o.dst with
 |none=>exact⟨hs,C1,ω1,hle,jZ,m,he⟩
 |some d=>
  rw[MC]at ho
  refine⟨by simpa[Act.put]using hs,C1,ω1,hle,jZ,m,?_⟩
  exact he.putAt (hs▸hf d MC) hr ho
theorem q0q {o:Oper}{ao:qv}{e:Env}{tmps:Array Value}{ω:Nat→Option Loc}{w:World}{B:Nat}{b:Bool}(he:aj C ω w B e tmps)(hg:Dh ops o.guard=Ef ao.guard)(hb:mf e ao.guard=Ef b):Region.wanted o (yielded ops tmps)=b:=by
 unfold Region.wanted
 cases hog:o.guard with
 |none=>
  rw[hog]at hg
  simp only[Dh,Ef.injEq]at hg
  rw[←hg]at hb
  simp only[mf,Ef.injEq]at hb
  exact hb
 |some g=>
  obtain⟨j,want⟩:=g
  rw[hog]at hg
  simp only[Dh]at hg
  split at hg
  ·rename_i d hd
   have hgd:=Ef.inj hg
   rw[←hgd]at hb
   simp only[mf]at hb
   split at hb
   ·rename_i c ow hl
    cases hb
    obtain⟨v,h1,h2,_⟩:=he d _ hl
    have:=h2.cV
    subst this
    simp only[yielded,hd,Sf,h1]
    cases c<;>cases want<;>rfl
   ·rename_i ow hl
    cases hb
    obtain⟨v,h1,h2,_⟩:=he d _ hl
    have hv:v=.tuple #[]:=by cases h2;rfl
    subst hv
    simp only[yielded,hd,Sf,h1]
    rfl
   ·cases hb
  ·cases hg
theorem q56 {h:qb}{md:jc}{r:Nat}{d:Option Nat}{op:Op}{n s:Nat}{y:qh}(FX:∀t x z,op≠.store t x z):(cx P h md r d op).getD .bad≠.dw n s y:=by
 intro hc
 cases kA:cx P h md r d op with
 |none=>rw[kA]at hc;cases hc
 |some a=>
  rw[kA]at hc
  simp only[Hh]at hc
  subst hc
  cases op<;>simp only[cx,cond_eq_ite]at kA<;>(try exact FX _ _ _ rfl)<;>(repeat' split at kA)<;>(try split at kA)<;>(try contradiction)<;>(try simp at kA)<;>(try (split at kA<;>simp at kA))<;>(try (unfold LZ at kA; (repeat' split at kA)<;>simp at kA))<;>(try (simp only[RV,Df]at kA; (repeat' split at kA)<;>simp at kA))<;>(try (simp only[zi]at kA; (repeat' split at kA)<;>(try contradiction)<;>(try simp at kA)<;>(try (split at kA<;>simp at kA))))
theorem q69 (eh:qx P p)(hx:cg P xc){i:Nat}{o:Oper}{ao:qv}{st bL:qg}{a:Act}{w:World}{Q:Exit→Act→World→Prop}{K:Act→World→Prop}(hi:ops[i]?=Ef o)(hr:js P nt ops o ao)(hs:iD p xc h0 ao st=Ef bL)(bU:da P w0 C0 C nt st a w)
  (hK:∀a' w',da P w0 C0 C nt bL a' w'→K a' w'):wpOpIn (iE ρ) 0 P ops Q i K a w:=by
 obtain⟨cD,C1,ω1,hle,jZ,m,he⟩:=bU
 unfold wpOpIn
 rw[hi]
 simp only[]
 unfold iD at hs
 split at hs
 ·rename_i hg
  rw[q0q he hr.guard hg]
  simp only[if_true]
  split at hs
  ·rename_i res dS
   cases hs
   obtain⟨h,md,r,hop⟩:=hr.op
   cases mK:ao.op.gJ with
   |some sv=>
    -- the one write of a variable
    have Ah:∃n y',ao.op=.dw n sv y':=by
     cases xh:ao.op<;>rw[xh]at mK<;>simp[qw.gJ]at mK
     subst mK;exact⟨_,_,rfl⟩
    obtain⟨n,y',xh⟩:=Ah
    have hdd:ao.dst=Ef sv:=by rw[hr.dst,xh];rfl
    rw[xh]at dS hop
    have bU:∃t x y,o.op=.store t x y∧yg P t=Ef n∧zq x=Ef (.tmp sv)∧zq y=Ef y':=by
     cases hoo:o.op<;>rw[hoo]at hop
     case store t x y=>
      simp only[cx]at hop
      split at hop
      ·rename_i n' x' yy hn h1 h2
       simp only[Hh]at hop
       cases ly:L0 h x' with
       |none=>rw[ly]at hop;cases hop
       |some s'=>
        rw[ly]at hop
        simp only[qw.dw.injEq]at hop
        obtain⟨rfl,rfl,rfl⟩:=hop
        refine⟨t,x,y,rfl,hn,?_,h2⟩
        unfold L0 at ly
        split at ly
        ·split at ly
         ·cases ly;exact h1
         ·cases ly
        ·cases ly
      ·cases hop
     all_goals exact absurd hop (q56 (by simp))
    obtain⟨t,x,y,ho,hn,h1,h2⟩:=bU
    simp only[j9,zh]at dS
    split at dS
    ·rename_i mm v hl e2
     cases hk:(Gy mm n&&Gy v.flat.length n&&v.flat.all ze)with
     |false=>rw[hk]at dS;cases dS
     |true=>
      rw[hk]at dS
      simp only[cT,val,Ef.injEq]at dS
      subst dS
      simp only[En]at hk
      obtain⟨⟨k1,k2⟩,k3⟩:=hk
      obtain rfl:=E3 k1
      obtain⟨w',C',ω',bm,cz,m',e'⟩:=q9r m he ho hn h1 h2 hl e2 (E3 k2) k3
      refine⟨fun _ _=>trivial,?_⟩
      rw[Oper.semAt_eq _ _ _ (fun c hc=>by rw[ho]at hc;cases hc),bm]
      have MC:o.dst=none:=(hr.FW sv mK).1
      refine hK _ _ ?_
      rw[MC,hdd]
      exact⟨cD,C',ω',ay.le_trans hle cz,jZ.mono cz,m',e'⟩
    ·cases dS
   |none=>
   have qI:ao.dst=o.dst:=by rw[hr.dst];cases xh:ao.op<;>rw[xh]at mK<;>first|rfl|simp[qw.gJ]at mK
   have bm:dW P C1 C0 w0 a (.slot (o.dst.getD 0)) st.env o w res:=by
    cases hc:cx P h md r o.dst o.op with
    |none=>rw[hc]at hop;simp only[Sj]at hop;rw[←hop]at dS;simp[j9,zh]at dS
    |some cr=>rw[hc]at hop;simp only[Hh]at hop;subst hop;exact jul eh hx m he mK hc dS
   have fin:∀v w',kf P C0 w0 C1 a.tmps (.slot (o.dst.getD 0)) st.env res v w'→K (a.put o.dst v) w':=by
    rintro v w' ⟨C2,ω2,h1,h2,h3,h4,h5⟩
    exact hK _ _ (jbw (st:=st) qI hr.fits cD (jZ.mono h1) (ay.le_trans hle h1) h2 h3 h4 h5)
   refine⟨fun _ _=>trivial,?_⟩
   rw[Oper.semAt_eq _ _ _ (fun c hc=>by
    rw[hc]at hop
    simp only[cx,Sj]at hop
    rw[←hop]at dS
    simp[j9,zh]at dS)]
   rcases bm with⟨v,w',h1,h2⟩|⟨w',h1,h2⟩|⟨f,args,h1,h2⟩|⟨l,f,tmps,assign,body,h1,h2⟩
   ·rw[h1];exact fin v w' h2
   ·rw[h1];exact fin undef w' h2
   ·rw[h1]
    refine⟨fun h=>by simp[iE,Fence.wide]at h,CallsIn.mono (qxq.2 h2) ?_⟩
    rintro e w' ⟨v,rfl,gC⟩
    exact fin v w' gC
   ·rw[h1]
    have oh:RoundIn (iE ρ) 0 P l f tmps assign body w _:=h2
    refine⟨fun h=>by simp[iE,Fence.wide]at h,RoundIn.mono oh ?_⟩
    rintro e w' ⟨v,rfl,gC⟩
    exact fin v w' gC
  ·cases hs
 ·rename_i hg
  cases hs
  rw[q0q he hr.guard hg]
  simp only[Bool.false_eq_true,if_false]
  have qI:ao.dst=o.dst:=by
   cases mK:ao.op.gJ with
   |none=>rw[hr.dst];cases xh:ao.op<;>rw[xh]at mK<;>first|rfl|simp[qw.gJ]at mK
   |some sv=>
    have h1:=hr.guard
    rw[(hr.FW sv mK).2]at h1
    simp only[Dh,Ef.injEq]at h1
    rw[←h1]at hg
    simp[mf]at hg
  exact⟨fun _ _=>trivial,hK _ _ (jbw (st:=st) qI hr.fits cD jZ hle m he .undef (by simp))⟩
 ·cases hs
inductive jo (P:Program)(nt:Nat)(ops:Array Oper):List Nat→List qv→Prop where
 |nil:jo P nt ops [] []
 |cons {i:Nat} {o:Oper} {ao:qv} {l:List Nat} {lo:List qv} (hi:ops[i]?=Ef o) (h:js P nt ops o ao) (t:jo P nt ops l lo):jo P nt ops (i::l) (ao::lo)
theorem q66 (eh:qx P p)(hx:cg P xc){Q:Exit→Act→World→Prop}{bL:qg}(hQ:∀a' w',da P w0 C0 C nt bL a' w'→Q .normal a' w'):∀ {l:List Nat} {lo:List qv} {st:qg} {a:Act} {w:World},jo P nt ops l lo→fG p xc h0 lo st=Ef bL→da P w0 C0 C nt st a w→wpOpsIn (iE ρ) 0 P ops Q l a w
 | [],_,st,a,w,.nil,hs,bU=>by
  simp only[fG,Ef.injEq]at hs
  subst hs
  exact hQ _ _ bU
 |i::l,_,st,a,w,.cons hi h t,hs,bU=>by
  simp only[fG]at hs
  split at hs
  ·rename_i s1 h1
   rw[wpOpsIn_cons]
   exact q69 eh hx hi h h1 bU fun a' w' gQ=>q66 eh hx hQ t hs gQ
  ·cases hs
theorem qz9 {h:qb}{id:Nat}{gX:Array Nat}{draw:Bool}:∀ {os:List Oper} {i:Nat} {rs Di:List (Nat×Nat)} {l:List qv},ER P h nt id ops gX draw os i rs=Ef (l,Di)→(∀j,os[j]?=ops[i+j]?)→jo P nt ops (List.range' i os.length) l
 | [],i,rs,Di,l,hc,_=>by
  simp only[ER,Ef.injEq,Prod.mk.injEq]at hc
  rw[←hc.1];exact .nil
 |o::os,i,rs,Di,l,hc,hos=>by
  simp only[ER]at hc
  split at hc
  ·rename_i g hg
   split at hc
   ·rename_i cf
    split at hc
    ·rename_i l1 oi FY
     simp only[Ef.injEq,Prod.mk.injEq]at hc
     rw[←hc.1]
     simp only[En]at cf
     obtain⟨⟨hf1,hf2⟩,hf3⟩:=cf
     refine .cons (o:=o) (by rw[←Nat.add_zero i,←hos 0];rfl) ⟨⟨h,jcj h id i,rs.length,rfl⟩,hg,rfl,fun d hd=>?_,fun d hd=>?_,fun d hd=>?_⟩ ?_
     ·rw[hd]at hf1
      simpa using hf1
     ·simp only at hd
      rw[hd]at hf2
      simpa using hf2
     ·simp only at hd
      rw[hd]at hf3
      simpa using hf3
     ·exact qz9 FY (fun j=>by rw[show i+1+j=i+(j+1)from by omega,←hos (j+1)];rfl)
    ·cases hc
   ·cases hc
  ·cases hc
theorem av.holes {ω:Nat→Option Loc}{w:World}{hp:j8}(m:av P C ω w0 C0 hp w)(n:Nat):av P C ω w0 C0 (hp++So n .hole) w:=
 { m with
  lt:=fun b r hb=>⟨(m.lt b r hb).1,by rw[List.length_append];have:=(m.lt b r hb).2;omega⟩
  box:=fun b x r hx hb=>m.box b x r (by rw[List.getElem?_append_left (m.lt b r hb).2]at hx;exact hx) hb }
theorem q4p {l:List Nat}{e:Env}{s:Nat}{x:qa×Bool}:yd s (pD e l)=Ef x→yd s e=Ef x:=by
 induction l with
 |nil=>simp[pD,yd]
 |cons t l ih=>
  intro h
  simp only[pD]at h
  split at h
  ·rename_i y hy
   by_cases bU:s=t
   ·subst bU;rw[DE]at h;rw[hy];exact h
   ·rw[MA bU]at h;exact ih h
  ·exact ih h
theorem da.keep {st:qg}{a:Act}{w:World}{k:Option (List Nat)}(h:da P w0 C0 C nt st a w):da P w0 C0 C nt (yZ st k) a w:=by
 cases k with
 |none=>exact h
 |some l=>
  obtain⟨h1,C',ω',h3,h2,h4,h5⟩:=h
  exact⟨h1,C',ω',h3,h2,h4,fun s x hx=>h5 s x (q4p hx)⟩
theorem quc {listed:Array Bool}{i j:Nat}{d:Bool}:(listed.setIfInBounds i E1).getD j d=if i=j∧j<listed.size then E1 else listed.getD j d:=by
 simp only[E9,Array.getElem?_setIfInBounds]
 by_cases vo:i=j
 ·subst vo
  by_cases hl:i<listed.size
  ·simp[hl]
  ·simp[hl]
 ·simp[vo]
theorem iR.FZ {a b:qg}(h:iR a b):iR b a:=⟨h.1.symm,fun s=>(h.2 s).symm⟩
def pick (full:List qv)(l:List Nat):List qv:=l.map fun i=>full.getD i default
theorem jo.get {l:List Nat}{lo:List qv}(h:jo P nt ops l lo):l.length=lo.length∧∀k i,l[k]?=Ef i→∃o,ops[i]?=Ef o∧js P nt ops o (lo.getD k default):=by
 induction h with
 |nil=>exact⟨rfl,by simp⟩
 |cons hi h t ih=>
  refine⟨by simp[ih.1],fun k i hk=>?_⟩
  cases k with
  |zero=>simp at hk;subst hk;exact⟨_,hi,h⟩
  |succ k=>simp at hk;obtain⟨o,h1,h2⟩:=ih.2 k i hk;exact⟨o,h1,by simpa using h2⟩
theorem jqn {full:List qv}{gX:Array Nat}(eh:qx P p)(hx:cg P xc){Q:Exit→Act→World→Prop}{bL:qg}(hQ:∀a' w',da P w0 C0 C nt bL a' w'→Q .normal a' w')
  (qJ:∀i o,ops[i]?=Ef o→js P nt ops o (full.getD i default)) (F0:∀i j,i<j→j<ops.size→(gX.getD j 0).testBit i=E4→zm (full.getD i default) (full.getD j default)=E1)
  (Tz:∀j o i,ops[j]?=Ef o→i<ops.size→(gX.getD j 0).testBit i=E1→∃e∈o.after,Region.binds .any e=E1∧(e.on=i∨(gX.getD e.on 0).testBit i=E1))
  (F1:∀i o,ops[i]?=Ef o→∀e∈o.after,Region.binds .any e=E1→e.on<i):
  ∀(fuel:Nat) (listed:Array Bool) (l:List Nat) (st s2:qg) (a:Act) (w:World),listed.size=ops.size→l.Pairwise (· < ·)→(∀i,i∈l↔i<ops.size∧listed.getD i E1=E4)→l.length≤fuel →
   (∀k i,i<ops.size→listed.getD k E4=E1→(gX.getD k 0).testBit i=E1→listed.getD i E4=E1)→fG p xc h0 (pick full l) st=Ef s2→iR s2 bL→da P w0 C0 C nt st a w→wpAnyIn (iE ρ) 0 P .any ops Q fuel listed a w:=by
 intro fuel
 induction fuel with
 |zero=>
  intro listed l st s2 a w cD fL cS hlen kB hs heq bU
  have hl:l=[]:=List.length_eq_zero_iff.1 (by omega)
  subst hl
  simp only[pick,Sw,fG,Ef.injEq]at hs
  subst hs
  refine⟨?_,hQ _ _ (bU.eqv heq)⟩
  cases hr:Region.ready .any ops listed with
  |nil=>rfl
  |cons i rs=>
   have hi:i∈Region.ready .any ops listed:=by rw[hr];simp
   obtain⟨h1,o,ho,_⟩:=mem_ready.1 hi
   have:=(cS i).2 ⟨(If.1 ho).1,h1⟩
   cases this
 |succ fuel ih=>
  intro listed l st s2 a w cD fL cS hlen kB hs heq bU
  refine⟨fun hr=>?_,fun i hi=>?_⟩
  ·cases l with
   |nil=>
    simp only[pick,Sw,fG,Ef.injEq]at hs
    subst hs
    exact hQ _ _ (bU.eqv heq)
   |cons i l=>
    exfalso
    obtain⟨h1,h2⟩:=(cS i).1 (by simp)
    have hi:i∈Region.ready .any ops listed:=by
     refine mem_ready.2 ⟨h2,ops[i],Gm h1,fun e he hb=>?_⟩
     have aY:=F1 i _ (Gm h1) e he hb
     have bA:e.on ∉ i::l:=fun hm=>by
      rcases St.1 hm with h|h
      ·omega
      ·have:=(N4.1 fL).1 _ h;omega
     have h3:¬(listed.getD e.on E1=E4):=fun h=>bA ((cS e.on).2 ⟨by omega,h⟩)
     have qK:e.on<listed.size:=by omega
     simp only[E9,Gm qK,Hh]at h3 ⊢
     simpa using h3
    rw[hr]at hi
    cases hi
  ·obtain⟨h1,o,ho,hall⟩:=mem_ready.1 hi
   have aY:=(If.1 ho).1
   have him:i∈l:=(cS i).2 ⟨aY,h1⟩
   obtain⟨l1,l2,rfl⟩:=List.append_of_mem him
   have TA:∀k,k∈l1++i::l2→listed.getD k E4=E1→False:=fun k hk hl=>by
    obtain⟨k1,k2⟩:=(cS k).1 hk
    have qK:k<listed.size:=by omega
    simp only[E9,Gm qK,Hh]at hl k2
    rw[hl]at k2;cases k2
   have hbi:∀k,k<ops.size→(gX.getD i 0).testBit k=E1→listed.getD k E4=E1:=fun k hk hb=>by
    obtain⟨e,he,kN,h2|h2⟩:=Tz i o k ho hk hb
    ·rw[←h2];exact hall e he kN
    ·exact kB e.on k hk (hall e he kN) h2
   have hm:∀b∈pick full l1,zm b (full.getD i default)=E1:=by
    intro b hb
    obtain⟨k,hk,rfl⟩:=List.mem_map.1 hb
    have Ai:k<i:=(N2.1 fL).2.2 k hk i (by simp)
    refine F0 k i Ai aY ?_
    cases TB:(gX.getD i 0).testBit k with
    |false=>rfl
    |true=>exact(TA k (by simp[hk]) (hbi k (by omega) TB)).elim
   have TC:pick full (l1++i::l2)=pick full l1++full.getD i default::pick full l2:=by simp[pick]
   rw[TC]at hs
   obtain⟨t1,t2,g1,g2,g3⟩:=qxn hm hs
   refine q69 eh hx ho (qJ i o ho) g1 bU fun a' w' gQ=>?_
   refine ih (listed.setIfInBounds i E1) (l1++l2) t1 t2 a' w' (by simpa using cD) ?_ ?_ ?_ ?_ (by rw[show pick full (l1++l2)=pick full l1++pick full l2 from by simp[pick]];exact g2) (iR.trans (iR.FZ g3) heq) gQ
   ·exact fL.sublist (Sx.append (Sx.refl _) (List.sublist_cons_self _ _))
   ·intro k
    rw[quc]
    have F2:i ∉ l1∧i ∉ l2:=by
     have h:=N2.1 fL
     refine⟨fun hi1=>?_,fun hi2=>?_⟩
     ·have:=h.2.2 i hi1 i (by simp);omega
     ·have:=(N4.1 h.2.1).1 i hi2;omega
    constructor
    ·intro hk
     have Ai:k≠i:=fun h=>by
      subst h
      rcases Nf.1 hk with h|h
      ·exact F2.1 h
      ·exact F2.2 h
     have:=(cS k).1 (by rcases Nf.1 hk with h|h<;>simp[h])
     rw[if_neg (by omega)]
     exact this
    ·rintro ⟨k1,k2⟩
     split at k2
     ·cases k2
     ·rename_i bA
      have Ai:k≠i:=fun h=>bA ⟨h.symm,by omega⟩
      have:=(cS k).2 ⟨k1,k2⟩
      rcases Nf.1 this with h|h
      ·simp[h]
      ·rcases St.1 h with h|h
       ·exact absurd h Ai
       ·simp[h]
   ·simp at hlen ⊢;omega
   ·intro k j hj hk hb
    rw[quc]at hk ⊢
    split
    ·rfl
    ·split at hk
     ·rename_i TD
      rw[←TD.1]at hb
      exact hbi j hj hb
     ·exact kB k j hj hk hb
theorem q5r {gX:Array Nat}{l:List qv}(h:RY gX l=E1){i j:Nat}(vo:i<j)(hj:j<l.length)(hb:(gX.getD j 0).testBit i=E4):zm (l.getD i default) (l.getD j default)=E1:=by
 unfold RY at h
 rw[Gz]at h
 have h1:=h (l[j],j) (Gd.2 (by simp[hj]))
 simp only[]at h1
 rw[Gz]at h1
 have h2:=h1 (l[i]'(by omega),i) (Gd.2 (by simp))
 simp only[vo,hb,decide_true,N3,Mj]at h2
 simp only[List.getD_eq_getElem?_getD,Ma hj,Ma (show i<l.length by omega),Hh]
 exact h2
theorem q95 {gX:Array Nat}(h:R0 gX ops=E1){j i:Nat}{o:Oper}(ho:ops[j]?=Ef o)(hi:i<ops.size)(hb:(gX.getD j 0).testBit i=E1):∃e∈o.after,Region.binds .any e=E1∧(e.on=i∨(gX.getD e.on 0).testBit i=E1):=by
 unfold R0 at h
 rw[Gz]at h
 have h1:=h (o,j) (Gd.2 (by simpa using ho))
 simp only[]at h1
 rw[Gz]at h1
 have h2:=h1 i (Sr.2 hi)
 rw[hb]at h2
 simp only[N3,Mj,Array.any_eq_true']at h2
 obtain⟨e,he,h3⟩:=h2
 simp only[En,Sm,beq_iff_eq]at h3
 exact⟨e,he,h3.1,h3.2⟩
theorem q27 (h:RZ ops=E1){i:Nat}{o:Oper}(ho:ops[i]?=Ef o):∀e∈o.after,Region.binds .any e=E1→e.on<i:=by
 intro e he hb
 unfold RZ at h
 rw[Gz]at h
 have h1:=h (o,i) (Gd.2 (by simpa using ho))
 simp only[Array.all_eq_true']at h1
 have:=h1 e he
 simpa[hb]using this
theorem ja1 (eh:qx P p)(hx:cg P xc){id:Nat}{draw:Bool}{ca:qe}{h:qb}{na:Nat}{l:List qv}{keep:Option (List Nat)}(hc:ET P h nt id ops draw=Ef ca)(dK:ca=.region na l keep){st bL:qg}{x:qo}(hs:mg p xc na l keep st=Ef (x,bL)){ω:Nat→Option Loc}{a:Act}{w:World}
  (m:av P C ω w0 C0 st.heap w) (he:aj C ω w w0.heap.size st.env a.tmps) (cD:a.tmps.size=nt) (jZ:Marks C w0.heap.size a.defers):
  (Code.region id ops draw).wpIn (iE ρ) 0 P (fun e a' w'=>e=zV x∧da P w0 C0 C nt bL a' w') a w:=by
 subst dK
 unfold ET at hc
 split at hc
 ·rename_i l' rs hl
  split at hc
  ·rename_i hd
   simp only[Ef.injEq,qe.region.injEq]at hc
   obtain⟨rfl,rfl,nG⟩:=hc
   unfold mg at hs
   split at hs
   ·rename_i s1 h1
    cases hs
    have xi:jo P nt ops (List.range' 0 ops.size) l':=by
     have:=qz9 hl (ops:=ops) (fun j=>by simp)
     simpa using this
    have hQ:∀a' w',da P w0 C0 C nt s1 a' w'→(fun e a' w'=>e=zV .normal∧da P w0 C0 C nt (yZ s1 keep) a' w') Exit.normal a' w':=fun a' w' bU=>⟨rfl,bU.keep⟩
    cases draw with
    |false=>
     refine wpIn_region ?_
     rw[List.range_eq_range']
     exact q66 eh hx hQ xi h1 ⟨cD,C,ω,ay.le_refl C,jZ,m.holes _,he⟩
    |true=>
     simp only[N3,Mj,En]at hd
     obtain⟨⟨d1,d2⟩,d3⟩:=hd
     refine wpIn_region_any eh.mixed ?_
     obtain⟨hlen,TE⟩:=xi.get
     have hlen':l'.length=ops.size:=by rw[←hlen];simp
     have qJ:∀i o,ops[i]?=Ef o→js P nt ops o (l'.getD i default):=by
      intro i o ho
      have hi:=(If.1 ho).1
      obtain⟨o',h2,h3⟩:=TE i i (by rw[List.getElem?_range' hi];simp)
      rw[ho]at h2;cases h2;exact h3
     have TC:pick l' (List.range ops.size)=l':=by
      apply Mw
      intro k
      simp only[pick,List.getElem?_map]
      by_cases hk:k<ops.size
      ·rw[List.getElem?_range hk]
       simp[Ma (show k<l'.length by omega)]
      ·rw[N0 (by simpa using hk),N0 (by omega)];rfl
     refine jqn (gX:=Region.before ops) (full:=l') eh hx hQ qJ (fun i j h2 h3 h4=>q5r d1 h2 (by omega) h4) (fun j o i h2 h3 h4=>q95 d3 h2 h3 h4) (fun i o h2=>q27 d2 h2) ops.size _ (List.range ops.size) ⟨st.env,st.heap++So rs.length .hole⟩ s1 a _ (by simp) List.pairwise_lt_range ?_ (by simp) ?_ (by rw[TC];exact h1) (iR.refl _) ⟨cD,C,ω,ay.le_refl C,jZ,(m.holes _).ext (Ext.drew w),he.ext (Ext.drew w)⟩
     ·intro i
      simp only[Sr,E9,My]
      constructor
      ·intro hi;exact⟨hi,by simp[hi]⟩
      ·exact fun hi=>hi.1
     ·intro k i hi hk
      simp only[E9,My]at hk
      split at hk<;>simp at hk
   ·cases hs
  ·cases hc
 ·cases hc
end
end Go.Abs
