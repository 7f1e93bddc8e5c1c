/- Two operations that may be exchanged. -/
import Derived.Test.YtfopaakmgogpiaaGreatDoorAbsE
import Derived.OrdersIn
open List renaming getElem?_set_ne→I,getElem?_eq_some_iff→E2,set_comm→Gl,mem_zipIdx_iff_getElem?→G2,getElem?_set_self→Hd,all_eq_true→Md,length_set→Mx,getElem?_eq_getElem→Nh,ext_getElem?→N3,mem_append→R6,mem_append_right→Sb,getElem?_eq_none→Sd,mem_append_left→Sg,pairwise_append→Sk,pairwise_cons→Sp,getElem?_set→St,cons_append→Sx,replicate→S2,mem_range→S7,mem_cons→S8,map_nil→Ta,Sublist→Tb
open Option renaming some→En,getD_some→Mm,map_eq_some_iff→Mn,bind_some→Sy,getD_none→Sz
open Bool renaming and_eq_true→E1,true→E3,false→E6,cond_eq_ite→Gq,false_or→N1,not_true→Sn,or_eq_true→S1
open Nat renaming eq_of_beq_eq_true→E4,blt_eq→Gk,blt→Gn,beq→If,ble→N0,le_of_ble_eq_true→N2,beq_refl→Ss
open Array renaming getD_eq_getD_getElem?→Gm,getElem?_eq_getElem→H7,getElem?_eq_some_iff→Mz,getElem?_replicate→N4
open Ne renaming symm→Gp
namespace Go.Abs
section
variable {p:qt}{xc:XC}{h0:Nat}{al:Option (List Nat)}
def Agree (l:List Nat)(e e':Env):Prop:=∀s∈l,yd s e=yd s e'
theorem Agree.app {l l':List Nat}{e e':Env}(h:Agree (l++l') e e'):Agree l e e'∧Agree l' e e':=
 ⟨fun s hs=>h s (Sg _ hs),fun s hs=>h s (Sb _ hs)⟩
theorem zq {e e':Env}{x:qh}(h:Agree (yx x) e e'):zd e x=zd e' x:=by
 cases x with
 |tmp t=>simp only[zd,h t (by simp[yx])]
 |const v=>rfl
theorem Dh {e e':Env}:∀ {l:List qh},Agree (wD l) e e'→fC e l=fC e' l
 | [],_=>rfl
 |x::l,h=>by
  have h':Agree (yx x++wD l) e e':=by simpa[wD]using h
  simp only[fC,zq h'.app.1,Dh h'.app.2]
theorem Di {e e':Env}{x:Option qh}(d n:Nat)(h:Agree (yO x) e e'):eR e d n x=eR e' d n x:=by
 cases x with
 |none=>rfl
 |some x=>simp only[eR,zq (x:=x) h]
theorem Tf {e e':Env}{x:qh}(h:Agree (yx x) e e'):kg e x=kg e' x:=by
 cases x with
 |tmp t=>simp only[kg,h t (by simp[yx])]
 |const v=>rfl
theorem qlo {e e':Env}:∀ {l:List (Nat×Nat×qh)},Agree (l.flatMap fun p=>yx p.2.2) e e'→kP e l=kP e' l
 | [],_=>rfl
 |(i,n,x)::l,h=>by
  have h':Agree (yx x++l.flatMap fun p=>yx p.2.2) e e':=by simpa using h
  simp only[kP,zq h'.app.1,qlo h'.app.2]
theorem Tg {e e':Env}{sz:Nat}:∀ {l:List (Nat×qh)},Agree (l.flatMap fun p=>yx p.2) e e'→iA e sz l=iA e' sz l
 | [],_=>rfl
 |(i,x)::l,h=>by
  have h':Agree (yx x++l.flatMap fun p=>yx p.2) e e':=by simpa using h
  simp only[iA,zq h'.app.1,Tg h'.app.2]
theorem q14 {e e':Env}{h:j8}{op:qw}(ha:Agree op.reads e e'):za p xc h0 al e h op=za p xc h0 al e' h op:=by
 cases op with
 |move x=>simp only[za,zi,zq (x:=x) ha]
 |take s=>simp only[za,zi,ha s (by simp[qw.reads])]
 |pick c x y=>simp only[qw.reads]at ha;simp only[za,zi,zq ha.app.1.app.1,zq ha.app.1.app.2,zq ha.app.2]
 |build z ps=>simp only[za,zi,qlo (l:=ps) ha]
 |buildSlice sz n z ps=>simp only[za,zi,Tg (l:=ps) ha]
 |nilCheck x=>simp only[za,zi,zq (x:=x) ha]
 |fR n=>rfl
 |dr n s x=>
  simp only[qw.reads]at ha
  have h1:yd s e=yd s e':=ha s (by simp)
  have h2:Agree (yx x) e e':=fun t ht=>ha t (by simp[ht])
  simp only[za,zi,h1,zq h2]
 |nP n x=>simp only[za,zi,zq (x:=x) ha]
 |eN ag n x=>simp only[za,zi,zq (x:=x) ha]
 |bin op x y=>simp only[qw.reads]at ha;simp only[za,zi,zq ha.app.1,zq ha.app.2]
 |eqs ks n x y=>simp only[qw.reads]at ha;simp only[za,zi,zq ha.app.1,zq ha.app.2]
 |beq n x y=>simp only[qw.reads]at ha;simp only[za,zi,zq ha.app.1,zq ha.app.2]
 |eO k n x=>simp only[za,zi,zq (x:=x) ha]
 |un op x=>simp only[za,zi,zq (x:=x) ha]
 |conv k x=>simp only[za,zi,zq (x:=x) ha]
 |eE x=>simp only[za,zi,zq (x:=x) ha]
 |field ag off n x=>simp only[za,zi,zq (x:=x) ha]
 |index ag l n x i=>simp only[qw.reads]at ha;simp only[za,zi,zq ha.app.1,zq ha.app.2]
 |dI x i=>simp only[qw.reads]at ha;simp only[za,zi,zq ha.app.1,zq ha.app.2]
 |fieldAddr ag off n x=>simp only[za,zi,zq (x:=x) ha]
 |indexAddr sz x i=>simp only[qw.reads]at ha;simp only[za,zi,zq ha.app.1,zq ha.app.2]
 |dJ ag l sz x i=>simp only[qw.reads]at ha;simp only[za,zi,zq ha.app.1,zq ha.app.2]
 |slice sz x lo hi=>simp only[qw.reads]at ha;simp only[za,zi,zq ha.app.1.app.1,Di _ _ ha.app.1.app.2,Di _ _ ha.app.2]
 |eh x lo hi=>simp only[qw.reads]at ha;simp only[za,zi,zq ha.app.1.app.1,Di _ _ ha.app.1.app.2,Di _ _ ha.app.2]
 |ei l sz x lo hi=>simp only[qw.reads]at ha;simp only[za,zi,zq ha.app.1.app.1,Di _ _ ha.app.1.app.2,Di _ _ ha.app.2]
 |fS f x y=>simp only[qw.reads]at ha;simp only[za,zi,Dh ha.app.1,Dh ha.app.2]
 |len k x=>simp only[za,zi,zq (x:=x) ha]
 |append r sz b x y=>
  simp only[qw.reads]at ha
  cases r with
  |none=>simp only[za,zi,zq ha.app.1,zq ha.app.2,Tf ha.app.1]
  |some r=>simp only[za,zm,zq ha.app.1,zq ha.app.2,Tf ha.app.1]
 |gG r sz b x y=>simp only[qw.reads]at ha;simp only[za,zm,zq ha.app.1,zq ha.app.2]
 |hO r sz n z ps=>simp only[za,zm,Tg (l:=ps) ha]
 |bV r sz b z n c=>
  simp only[qw.reads]at ha
  cases r with
  |none=>simp only[za,zi,zq ha.app.1,zq ha.app.2]
  |some r=>simp only[za,zm,zq ha.app.1,zq ha.app.2]
 |mx l=>simp only[za,zi,Dh (l:=l) ha]
 |mn l=>simp only[za,zi,Dh (l:=l) ha]
 |extract x i=>simp only[za,zi,zq (x:=x) ha]
 |load ag n x=>simp only[za,gT,zq (x:=x) ha]
 |alloc r z=>rfl
 |fB r t e=>rfl
 |box r n x=>simp only[za,zm,zq (x:=x) ha]
 |b6 off x=>simp only[za,zm,zq (x:=x) ha]
 |store n x y=>simp only[qw.reads]at ha;simp only[za,zm,zq ha.app.1,zq ha.app.2,Tf ha.app.2]
 |dK r=>rfl
 |cZ r x=>simp only[za,zm,zq (x:=x) ha]
 |call md f l=>simp only[qw.reads]at ha;simp only[za,iB,zq ha.app.1,Dh ha.app.2]
 |lookup kd z ok x y=>simp only[qw.reads]at ha;simp only[za,gT,zq ha.app.1,zq ha.app.2]
 |mapUpdate kd x y z=>simp only[qw.reads]at ha;simp only[za,zm,zq ha.app.1.app.1,zq ha.app.1.app.2,zq ha.app.2]
 |delete kd x y=>simp only[qw.reads]at ha;simp only[za,zm,zq ha.app.1,zq ha.app.2]
 |copy sz x y=>simp only[qw.reads]at ha;simp only[za,zm,zq ha.app.1,zq ha.app.2]
 |eP x=>simp only[za,zm,zq (x:=x) ha]
 |bad=>rfl
def qq.at (r:qq)(h:j8):qq:={ r with heap:=h }
theorem lR {h h':j8}{x:qa}{r:qq}(hs:val h x=En r):r.heap=h∧val h' x=En (r.at h'):=by
 simp only[val,En.injEq]at hs;subst hs;exact⟨rfl,rfl⟩
theorem jdp (h:j8)(x:Option qa):fU h x=(fU [] x).map (·.at h):=by cases x<;>rfl
theorem Ti {α β:Type}(c:Bool)(x y:Option α)(f:α→β):(bif c then x else y).map f=bif c then x.map f else y.map f:=by cases c<;>rfl
theorem qrb (e:Env)(h:j8)(op:qw):zi e h op=(zi e [] op).map (·.at h):=by
 cases op with
 |append r sz b x y=>
  cases r with
  |some r=>rfl
  |none=>
   simp only[zi]
   repeat' split
   all_goals first
    |rfl
    |(simp only[Ti];repeat' split)<;>rfl
 |bV r sz b z n c=>
  cases r with
  |some r=>rfl
  |none=>
   simp only[zi]
   repeat' split
   all_goals first
    |rfl
    |(simp only[Ti];rfl)
 |_=>
  simp only[zi]
  repeat' split
  all_goals first
   |rfl
   |exact jdp _ _
   |(simp only[Ti];first|rfl|(repeat' split)<;>rfl)
theorem qt1 {e:Env}{h:j8}(h':j8){op:qw}{r:qq}(hs:zi e h op=En r):r.heap=h∧zi e h' op=En (r.at h'):=by
 rw[qrb]at hs
 obtain⟨r0,h1,rfl⟩:=Mn.1 hs
 refine⟨rfl,?_⟩
 rw[qrb,h1]
 rfl
end
section
variable {p:qt}{xc:XC}{h0:Nat}{al:Option (List Nat)}
def nV:Option qn→Bool
 |some (.vec ..)=>E6
 |some .hole=>E6
 |_=>E3
theorem FB {h:j8}{b:Nat}{cs:List (qa×Bool)}(hc:yl h b=En cs):nV h[b]?=E3:=by
 unfold yl at hc
 split at hc
 ·rename_i h1;rw[h1];rfl
 ·cases hc
theorem Dj {h:j8}{b:Nat}{x:qn}(hb:y5 h b=En x)(hx:nV (En x)=E3):nV h[b]?=E3:=by
 unfold y5 at hb;rw[hb];exact hx
def Tj:qn→Option Nat
 | .vec sz _ _=>En sz
 |_=>none
def HB (h0:Nat)(al:Option (List Nat))(F:j8→Option qq)(h:j8)(r:qq):jq→Nat→Prop
 | .pure,_=>r.heap=h∧∀h',F h'=En (r.at h')
 | .read,_=>r.heap=h∧∀h':j8,(∀b,yv h0 al b=E3→(oH al=E3→nV h[b]?=E3)→h'[b]?=h[b]?)→F h'=En (r.at h')
 | .alloc,k=>∃x,aJ h0 h k x=En r.heap∧∀h' h3,aJ h0 h' k x=En h3→F h'=En (r.at h3)
 | .write,_=>∃b x,yv h0 al b=E3∧nV h[b]?=E3∧nV (En x)=E3∧yj h b x=En r.heap∧∀h' h3:j8,h'[b]?=h[b]?→yj h' b x=En h3→F h'=En (r.at h3)
 | .take,k=>∃b cs v o,yv h0 al b=E3∧h[b]?=En (.cells cs)∧cs[k]?=En (v,o)∧r.heap=h.set b (.cells (cs.set k (v,E6))) ∧
   ∀(h':j8) (dQ:List (qa×Bool)),h'[b]?=En (.cells dQ)→dQ[k]?=En (v,o)→F h'=En (r.at (h'.set b (.cells (dQ.set k (v,E6)))))
 | .fa,_=>False
 | .shr,_=>True
 | .nq,k=>∃q x y,(q=h0+k % 1000∧y=.hole∨Tj y=En (k / 1000))∧h[q]?=En y∧r.heap=h.set q x∧Tj x=En (k / 1000)∧∀h':j8,h'[q]?=En y→F h'=En (r.at (h'.set q x))
theorem FC {h h':j8}{b:Nat}(hb:h'[b]?=h[b]?):yl h' b=yl h b:=by simp only[yl,hb]
theorem jca {e:Env}{h:j8}{op:qw}{r:qq}(hs:za p xc h0 al e h op=En r):HB h0 al (fun h=>za p xc h0 al e h op) h r op.cl op.cA:=by
 have fH:(∀h,za p xc h0 al e h op=zi e h op)→op.cl=.pure→HB h0 al (fun h=>za p xc h0 al e h op) h r op.cl op.cA:=by
  intro heq dp
  rw[dp]
  rw[heq]at hs
  exact⟨(qt1 h hs).1,fun h'=>(heq h').trans (qt1 h' hs).2⟩
 cases op with
 |load ag n x=>
  simp only[za,gT]at hs
  split at hs
  ·rename_i b o hv
   cases hk:yv h0 al b with
   |false=>simp[hk]at hs
   |true=>
    simp only[hk,cT]at hs
    split at hs
    ·rename_i cs hcs
     split at hs
     ·rename_i vs Mr
      have key:r.heap=h∧∀h':j8,yl h' b=yl h b→gT h0 al e h' (.load ag n x)=En (r.at h'):=by
       cases ag with
       |true=>
        simp only[cT]at hs
        refine⟨(lR (h':=h) hs).1,fun h' hb=>?_⟩
        simp only[gT,hv,hk,cT,hb,hcs,Mr]
        exact(lR (h':=h') hs).2
       |false=>
        simp only[cond_false]at hs
        split at hs
        ·refine⟨(lR (h':=h) hs).1,fun h' hb=>?_⟩
         simp only[gT,hv,hk,cT,hb,hcs,Mr,cond_false]
         exact(lR (h':=h') hs).2
        ·cases hs
      exact⟨key.1,fun h' cK=>key.2 h' (FC (cK b hk fun _=>FB hcs))⟩
     ·cases hs
    ·cases hs
  ·rename_i v hv
   cases hk:(Bool.xor ag v.isAgg||!(If v.flat.length n))with
   |true=>simp[hk]at hs
   |false=>
    simp only[hk,cond_false]at hs
    refine⟨(lR (h':=h) hs).1,fun h' _=>?_⟩
    simp only[za,gT,hv,hk,cond_false]
    exact(lR (h':=h') hs).2
  ·rename_i b bu q hv
   cases hk:tR h0 al b with
   |false=>simp[hk]at hs
   |true=>
    simp only[hk,cT]at hs
    have gM:=hk
    simp only[tR,E1,Bool.not_eq_true']at gM
    split at hs
    ·rename_i sz db xs fZ
     have iN:∀h':j8,(∀b,yv h0 al b=E3→(oH al=E3→nV h[b]?=E3)→h'[b]?=h[b]?)→y5 h' b=En (.vec sz db xs):=fun h' cK=>by
      unfold y5 at fZ ⊢;rw[cK b gM.1 (fun ho=>by rw[gM.2]at ho;cases ho),fZ]
     cases cV:(If bu db&&N0 (q+n) (xs.flatMap qa.flat).length)with
     |false=>rw[cV]at hs;cases hs
     |true=>
      rw[cV]at hs
      simp only[cT]at hs
      cases ag with
      |true=>
       simp only[cT]at hs
       refine⟨(lR (h':=h) hs).1,fun h' cK=>?_⟩
       simp only[za,gT,hv,hk,cT,iN h' cK,cV]
       exact(lR (h':=h') hs).2
      |false=>
       simp only[cond_false]at hs
       split at hs
       ·rename_i z hz
        refine⟨(lR (h':=h) hs).1,fun h' cK=>?_⟩
        simp only[za,gT,hv,hk,cT,iN h' cK,cV,cond_false,hz]
        exact(lR (h':=h') hs).2
       ·cases hs
    ·cases hs
  ·cases hs
 |len k x=>exact fH (fun _=>rfl) rfl
 |alloc rk z=>
  simp only[za,zm]at hs
  cases hk:z.all ze with
  |false=>simp[hk]at hs
  |true=>
   simp only[hk,cT]at hs
   split at hs
   ·rename_i h' hn
    have h1:=zx hs
    refine⟨_,by rw[h1];exact hn,fun g g3 hg=>?_⟩
    simp only[za,zm,hk,cT]
    rw[show qw.cA (.alloc rk z)=rk from rfl]at hg
    rw[hg,h1];rfl
   ·cases hs
 |box rk n x=>
  simp only[za,zm]at hs
  split at hs
  ·rename_i v hv
   cases hk:(If v.flat.length n&&v.flat.all ze)with
   |false=>simp[hk]at hs
   |true=>
    simp only[hk,cT]at hs
    split at hs
    ·rename_i h' hn
     have h1:=zx hs
     refine⟨_,by rw[h1];exact hn,fun g g3 hg=>?_⟩
     simp only[za,zm,hv,hk,cT]
     rw[show qw.cA (.box rk n x)=rk from rfl]at hg
     rw[hg,h1];rfl
    ·cases hs
  ·cases hs
 |fB rk t e'=>
  simp only[za,zm]at hs
  split at hs
  ·rename_i h' hn
   have h1:=zx hs
   refine⟨_,by rw[h1];exact hn,fun g g3 hg=>?_⟩
   simp only[za,zm]
   rw[show qw.cA (.fB rk t e')=rk from rfl]at hg
   rw[hg,h1];rfl
  ·cases hs
 |dK rk=>
  simp only[za,zm]at hs
  split at hs
  ·rename_i h' hn
   have h1:=zx hs
   refine⟨_,by rw[h1];exact hn,fun g g3 hg=>?_⟩
   simp only[za,zm]
   rw[show qw.cA (.dK rk)=rk from rfl]at hg
   rw[hg,h1];rfl
  ·cases hs
 |cZ rk x=>
  simp only[za,zm]at hs
  split at hs
  ·rename_i s hv
   split at hs
   ·rename_i h' hn
    have h1:=zx hs
    refine⟨_,by rw[h1];exact hn,fun g g3 hg=>?_⟩
    simp only[za,zm,hv]
    rw[show qw.cA (.cZ rk x)=rk from rfl]at hg
    rw[hg,h1];rfl
   ·cases hs
  ·cases hs
 |b6 off x=>
  simp only[za,zm]at hs
  split at hs
  ·rename_i b o hv
   cases hk:yv h0 al b&&tS off o with
   |false=>simp[hk]at hs
   |true=>
    simp only[hk,cT]at hs
    have eu:yv h0 al b=E3:=by simp only[E1]at hk;exact hk.1
    split at hs
    ·rename_i cs hcs
     split at hs
     ·rename_i v ow hq
      split at hs
      ·rename_i h' bm
       cases hs
       have nB:=bm
       unfold yj at nB
       cases aX:Gn b h.length with
       |false=>simp[aX]at nB
       |true=>
        simp only[aX,cT,En.injEq]at nB
        cases off with
        |none=>
         refine⟨b,_,eu,FB hcs,rfl,bm,fun g g3 hb hg=>?_⟩
         simp only[za,zm,hv,hk,cT,FC hb,hcs,hq,hg]
         rfl
        |some k=>
         have hko:k=o:=by
          simp only[E1,tS]at hk;exact E4 hk.2
         subst hko
         have hhb:h[b]?=En (.cells cs):=by
          unfold yl at hcs
          split at hcs
          ·rename_i dQ h';cases hcs;exact h'
          ·cases hcs
         refine⟨b,cs,v,ow,eu,hhb,hq,nB.symm,fun g dQ hg dy=>?_⟩
         have dy:dQ[k]?=En (v,ow):=dy
         have hlg:b<g.length:=(E2.1 hg).1
         have kI:yl g b=En dQ:=by simp only[yl,hg]
         have hsg:yj g b (.cells (dQ.set k (v,E6)))=En (g.set b (.cells (dQ.set k (v,E6)))):=by
          unfold yj;rw[Gk.mpr hlg];rfl
         simp only[za,zm,hv,hk,cT,kI,dy,hsg]
         rfl
      ·cases hs
     ·cases hs
    ·cases hs
  ·cases hs
 |store n x y=>
  simp only[za,zm]at hs
  split at hs
  ·rename_i b o v hv hy
   cases hk:yv h0 al b with
   |false=>simp[hk]at hs
   |true=>
    simp only[hk,cT]at hs
    split at hs
    ·rename_i cs hcs
     split at hs
     ·rename_i t ht
      cases cV:(If n 1&&v.cu&&Gn o cs.length)with
      |false=>simp[cV]at hs
      |true=>
       simp only[cV,cT]at hs
       split at hs
       ·rename_i h' bm
        cases hs
        refine⟨b,_,hk,FB hcs,rfl,bm,fun g g3 hb hg=>?_⟩
        simp only[za,zm,hv,hy,hk,cT,FC hb,hcs,ht,cV,hg]
        rfl
       ·cases hs
     ·rename_i ht
      cases cV:If v.flat.length n with
      |false=>simp[cV]at hs
      |true=>
       simp only[cV,cT]at hs
       split at hs
       ·rename_i dQ bS
        split at hs
        ·rename_i h' bm
         have h1:=zx hs
         refine⟨b,_,hk,FB hcs,rfl,by rw[h1];exact bm,fun g g3 hb hg=>?_⟩
         simp only[za,zm,hv,hy,hk,cT,FC hb,hcs,ht,cV,bS,hg,h1]
         rfl
        ·cases hs
       ·cases hs
    ·cases hs
  ·cases hs
 |call md f l=>
  cases md with
  |shr=>trivial
  |red=>trivial
  |fa rk=>
   simp only[za,iB]at hs
   split at hs
   ·rename_i k first captured vs e1 e2
    cases hb:(first++vs++captured).isEmpty with
    |false=>
     rw[hb]at hs
     simp only[cond_false]at hs
     cases lm:zw 0 (first++vs++captured)with
     |false=>rw[lm]at hs;cases hs
     |true=>
      rw[lm]at hs
      simp only[cT]at hs
      split at hs
      ·rename_i v o pY
       have goal:∃x,aJ h0 h rk x=En r.heap∧∀g g3,aJ h0 g rk x=En g3→py h0 g rk v o=En (r.at g3):=by
        unfold py at hs
        split at hs
        ·split at hs
         ·rename_i h' hn
          have h1:=zx hs
          refine⟨_,by rw[h1];exact hn,fun g g3 hg=>?_⟩
          simp only[py,hg,h1];rfl
         ·cases hs
        ·rename_i sz xs
         cases Fh:(xs.flatMap qa.flat).all ni with
         |false=>rw[Fh]at hs;cases hs
         |true=>
          rw[Fh]at hs
          simp only[cT]at hs
          split at hs
          ·rename_i h' hn
           have h1:=zx hs
           refine⟨_,by rw[h1];exact hn,fun g g3 hg=>?_⟩
           simp only[py,Fh,cT,hg,h1];rfl
          ·cases hs
        ·cases hs
       obtain⟨x,g1,g2⟩:=goal
       refine⟨x,g1,fun g g3 hg=>?_⟩
       simp only[za,iB,e1,e2,pY]
       rw[hb,lm]
       exact g2 g g3 hg
      ·cases hs
    |true=>
     rw[hb]at hs
     simp only[cT]at hs
     split at hs
     ·rename_i es hm
      split at hs
      ·rename_i h' hn
       have h1:=zx hs
       refine⟨_,by rw[h1];exact hn,fun g g3 hg=>?_⟩
       simp only[za,iB,e1,e2,hm]
       rw[hb]
       simp only[cT]
       rw[show qw.cA (.call (.fa rk) f l)=rk from rfl]at hg
       rw[hg,h1];rfl
      ·cases hs
     ·cases hs
   ·cases hs
   ·cases hs
  |bK=>
   simp only[za,iB]at hs
   split at hs
   ·rename_i k first captured vs e1 e2
    cases hb:zw 0 (first++vs++captured)with
    |false=>rw[hb]at hs;cases hs
    |true=>
     rw[hb]at hs
     simp only[cT]at hs
     split at hs
     ·rename_i v o pY
      cases hs
      refine⟨rfl,fun h'=>?_⟩
      simp only[za,iB,e1,e2,pY]
      rw[hb]
      rfl
     ·cases hs
   ·cases hs
   ·cases hs
 |append rk sz b x y=>
  cases rk with
  |none=>exact fH (fun _=>rfl) rfl
  |some rk=>
   simp only[za,zm]at hs
   split at hs
   ·rename_i cJ vy e1 e2
    cases fW:((kg e x).isSome&&If sz cJ)with
    |false=>simp[fW]at hs
    |true=>
     simp only[fW,cT]at hs
     split at hs
     ·rename_i ys cy
      cases cV:(N0 ys.length 1073741824&&N0 b 4096&&Gn 0 sz)with
      |false=>simp[cV]at hs
      |true=>
       simp only[cV,cT]at hs
       split at hs
       ·rename_i h' hn
        cases hs
        refine⟨_,hn,fun g g3 hg=>?_⟩
        simp only[za,zm,e1,e2,fW,cy,cV,cT]
        rw[show qw.cA (.append (En rk) sz b x y)=rk from rfl]at hg
        rw[hg];rfl
       ·cases hs
     ·cases hs
   ·cases hs
 |gG rk sz bt x y=>
  simp only[za,zm]at hs
  split at hs
  ·rename_i SJ vy e1 e2
   split at hs
   ·rename_i ys cy
    cases hk:(N0 ys.length 1073741824&&N0 bt 4096&&Gn 0 sz&&!ys.isEmpty&&zw 0 ys&&Gn rk 1000)with
    |false=>rw[hk]at hs;cases hs
    |true=>
     rw[hk]at hs
     simp only[cT]at hs
     split at hs
     ·rename_i h' cW
      obtain rfl:=zx hs
      obtain⟨i1,i2⟩:=li cW
      have hrk:rk<1000:=by simp only[E1]at hk;exact Gk.mp hk.2
      have m1:(rk+1000*sz) % 1000=rk:=by omega
      have m2:(rk+1000*sz) / 1000=sz:=by omega
      refine⟨h0+rk,.vec sz 0 ys,.hole,.inl ⟨by show _=h0+(rk+1000*sz) % 1000;rw[m1],rfl⟩,i1,i2,by show En sz=En ((rk+1000*sz) / 1000);rw[m2],fun g hg=>?_⟩
      simp only[za,zm,e1,e2,cy,hk,cT,aJ,hg]
      rfl
     ·cases hs
   ·cases hs
  ·rename_i b bu len vy e1 e2
   split at hs
   ·rename_i cJ db xs fZ
    split at hs
    ·rename_i ys cy
     cases hk:(If bu db&&If sz cJ&&N0 len xs.length&&N0 (len+ys.length) 1073741824&&N0 bt 4096&&Gn 0 sz&&zw 0 ys&&Gn rk 1000)with
     |false=>rw[hk]at hs;cases hs
     |true=>
      rw[hk]at hs
      simp only[cT]at hs
      split at hs
      ·rename_i h' bm
       obtain rfl:=zx hs
       have eu:=hk
       simp only[E1]at eu
       obtain⟨⟨⟨⟨⟨⟨⟨_,k2⟩,_⟩,_⟩,_⟩,_⟩,_⟩,k8⟩:=eu
       have cD:=E4 k2
       have hrk:rk<1000:=Gk.mp k8
       have m2:(rk+1000*sz) / 1000=sz:=by omega
       have aX:b<h.length:=by unfold y5 at fZ;exact(E2.1 fZ).1
       have hh:h'=h.set b (.vec sz (bu+1) (xs.take len++ys)):=by
        unfold yj at bm
        rw[Gk.mpr aX]at bm
        simpa using bm.symm
       refine⟨b,.vec sz (bu+1) (xs.take len++ys),.vec cJ db xs,.inr (by show En cJ=En ((rk+1000*sz) / 1000);rw[m2,cD]),fZ,hh,by show En sz=En ((rk+1000*sz) / 1000);rw[m2],fun g hg=>?_⟩
       have iN:y5 g b=En (.vec cJ db xs):=hg
       have vj:b<g.length:=(E2.1 hg).1
       simp only[za,zm,e1,e2,iN,cy,hk,cT,yj,Gk.mpr vj]
       rfl
      ·cases hs
    ·cases hs
   ·cases hs
  ·cases hs
 |hO rk sz n z ps=>trivial
 |bV rk sz b z n c=>
  cases rk with
  |none=>exact fH (fun _=>rfl) rfl
  |some rk=>
   simp only[za,zm]at hs
   split at hs
   ·rename_i n' c' e1 e2
    cases hk:(If n' c'&&N0 n' 1073741824&&N0 b 4096&&If z.length sz&&Gn 0 sz&&z.all ze)with
    |false=>simp[hk]at hs
    |true=>
     simp only[hk,cT]at hs
     split at hs
     ·rename_i h' hn
      have h1:=zx hs
      refine⟨_,by rw[h1];exact hn,fun g g3 hg=>?_⟩
      simp only[za,zm,e1,e2,hk,cT]
      rw[show qw.cA (.bV (En rk) sz b z n c)=rk from rfl]at hg
      rw[hg,h1];rfl
     ·cases hs
   ·cases hs
 |lookup kd z ok x y=>
  simp only[za,gT]at hs
  split at hs
  ·rename_i b kv e1 e2
   cases hk:yv h0 al b with
   |false=>simp[hk]at hs
   |true=>
    simp only[hk,cT]at hs
    split at hs
    ·rename_i es hb
     have iN:∀h':j8,(∀b,yv h0 al b=E3→(oH al=E3→nV h[b]?=E3)→h'[b]?=h[b]?)→y5 h' b=En (.map es):=fun h' cK=>by
      have Tk:=Dj hb rfl
      unfold y5 at hb ⊢;rw[cK b hk fun _=>Tk,hb]
     split at hs
     ·rename_i i v hf
      refine⟨(lR (h':=h) hs).1,fun h' cK=>?_⟩
      simp only[za,gT,e1,e2,hk,cT,iN h' cK,hf]
      exact(lR (h':=h') hs).2
     ·rename_i hf
      refine⟨(lR (h':=h) hs).1,fun h' cK=>?_⟩
      simp only[za,gT,e1,e2,hk,cT,iN h' cK,hf]
      exact(lR (h':=h') hs).2
     ·cases hs
    ·cases hs
  ·rename_i kv e1 e2
   refine⟨(lR (h':=h) hs).1,fun h' cK=>?_⟩
   simp only[za,gT,e1,e2]
   exact(lR (h':=h') hs).2
  ·cases hs
 |mapUpdate kd x y z=>
  simp only[za,zm]at hs
  split at hs
  ·rename_i b kv v e1 e2 e3
   cases hk:yv h0 al b with
   |false=>simp[hk]at hs
   |true=>
    simp only[hk,cT]at hs
    split at hs
    ·rename_i es hb
     have iN:∀h':j8,h'[b]?=h[b]?→y5 h' b=En (.map es):=fun h' cK=>by
      unfold y5 at hb ⊢;rw[cK,hb]
     split at hs
     ·rename_i i u hf
      split at hs
      ·rename_i h' bm
       have h1:=zx hs
       refine⟨b,_,hk,Dj hb rfl,rfl,by rw[h1];exact bm,fun g g3 eT hg=>?_⟩
       simp only[za,zm,e1,e2,e3,hk,cT,iN g eT,hf,hg,h1]
       rfl
      ·cases hs
     ·rename_i hf
      cases hl:N0 es.length 1073741824 with
      |false=>simp[hl]at hs
      |true=>
       simp only[hl,cT]at hs
       split at hs
       ·rename_i h' bm
        have h1:=zx hs
        refine⟨b,_,hk,Dj hb rfl,rfl,by rw[h1];exact bm,fun g g3 eT hg=>?_⟩
        simp only[za,zm,e1,e2,e3,hk,cT,iN g eT,hf,hl,hg,h1]
        rfl
       ·cases hs
     ·cases hs
    ·cases hs
  ·cases hs
 |delete kd x y=>
  simp only[za,zm]at hs
  split at hs
  ·rename_i b kv e1 e2
   cases hk:yv h0 al b with
   |false=>simp[hk]at hs
   |true=>
    simp only[hk,cT]at hs
    split at hs
    ·rename_i es hb
     have iN:∀h':j8,h'[b]?=h[b]?→y5 h' b=En (.map es):=fun h' cK=>by
      unfold y5 at hb ⊢;rw[cK,hb]
     split at hs
     ·rename_i rr hf
      split at hs
      ·rename_i h' bm
       have h1:=zx hs
       refine⟨b,_,hk,Dj hb rfl,rfl,by rw[h1];exact bm,fun g g3 eT hg=>?_⟩
       simp only[za,zm,e1,e2,hk,cT,iN g eT,hf,hg,h1]
       rfl
      ·cases hs
     ·cases hs
    ·cases hs
  ·cases hs
 |copy sz x y=>
  simp only[za,zm]at hs
  split at hs
  ·rename_i b o len vy e1 e2
   cases hk:yv h0 al b with
   |false=>simp[hk]at hs
   |true=>
    simp only[hk,cT]at hs
    split at hs
    ·rename_i cs hcs
     split at hs
     ·rename_i n us cy
      split at hs
      ·rename_i dQ bS
       cases cV:If us.length (n*sz)with
       |false=>simp[cV]at hs
       |true=>
        simp only[cV,cT]at hs
        split at hs
        ·rename_i h' bm
         have h1:=zx hs
         refine⟨b,_,hk,FB hcs,rfl,by rw[h1];exact bm,fun g g3 hb hg=>?_⟩
         simp only[za,zm,e1,e2,hk,cT,FC hb,hcs,cy,bS,cV,hg,h1]
         rfl
        ·cases hs
      ·cases hs
     ·cases hs
    ·cases hs
  ·cases hs
 |eP x=>
  simp only[za,zm]at hs
  split at hs
  ·rename_i b hv
   cases hk:yv h0 al b with
   |false=>simp[hk]at hs
   |true=>
    simp only[hk,cT]at hs
    split at hs
    ·rename_i s pos hb
     have aX:b<h.length:=by unfold y5 at hb;exact(E2.1 hb).1
     cases hp:Gn pos s.length with
     |true=>
      simp only[hp,cT]at hs
      split at hs
      ·rename_i h' bm
       have h1:=zx hs
       refine⟨b,_,hk,Dj hb rfl,rfl,by rw[h1];exact bm,fun g g3 eT hg=>?_⟩
       have iN:y5 g b=En (.iter s pos):=by unfold y5 at hb ⊢;rw[eT,hb]
       simp only[za,zm,hv,hk,cT,iN,hp,hg,h1]
       rfl
      ·cases hs
     |false=>
      simp only[hp,cond_false]at hs
      have h1:=zx hs
      have FD:h.set b (.iter s pos)=h:=by
       unfold y5 at hb
       apply N3
       intro k
       rw[St]
       split
       ·rename_i hbk;subst hbk;first|exact hb.symm|rw[if_pos aX,hb]
       ·rfl
      refine⟨b,.iter s pos,hk,Dj hb rfl,rfl,by rw[h1];unfold yj;rw[Gk.mpr aX];simp[FD],fun g g3 eT hg=>?_⟩
      have iN:y5 g b=En (.iter s pos):=by unfold y5 at hb ⊢;rw[eT,hb]
      have vj:b<g.length:=by unfold y5 at iN;exact(E2.1 iN).1
      have zP:g3=g:=by
       unfold yj at hg
       rw[Gk.mpr vj]at hg
       simp only[cT,En.injEq]at hg
       rw[←hg]
       unfold y5 at iN
       apply N3
       intro k
       rw[St]
       split
       ·rename_i hbk;subst hbk;first|exact iN.symm|rw[if_pos vj,iN]
       ·rfl
      simp only[za,zm,hv,hk,cT,iN,hp,cond_false,h1,zP]
      rfl
    ·cases hs
  ·cases hs
 |_=>exact fH (fun _=>rfl) rfl
theorem wS {h h':j8}{b:Nat}{x:qn}(hs:yj h b x=En h'):b<h.length∧h'=h.set b x:=by
 unfold yj at hs
 cases hb:Gn b h.length with
 |false=>simp[hb]at hs
 |true=>exact⟨Gk.mp hb,by simpa[hb]using hs.symm⟩
theorem zQ {h:j8}{b:Nat}{x:qn}(hb:b<h.length):yj h b x=En (h.set b x):=by
 unfold yj
 rw[Gk.mpr hb];rfl
theorem Dk {h:j8}{k:Nat}{x:qn}(hh:h[h0+k]?=En .hole):aJ h0 h k x=En (h.set (h0+k) x):=by
 unfold aJ;rw[hh]
theorem Dl {b k:Nat}(h:yv h0 al b=E3)(hk:mc al k=E6):b≠h0+k:=by
 intro hb
 subst hb
 cases al with
 |none=>simp[mc]at hk
 |some l=>
  simp only[yv,mc]at h hk
  have h1:Gn (h0+k) h0=E6:=by
   cases hh:Gn (h0+k) h0 with
   |false=>rfl
   |true=>have:=Gk.mp hh;omega
  cases he:nR l with
  |false=>
   rw[he]at h hk
   simp only[cond_false]at h hk
   rw[h1,N1,show h0+k-h0=k from by omega,hk]at h
   cases h
  |true=>
   rw[he]at h hk
   simp only[cT]at h hk
   cases l with
   |nil=>cases he
   |cons x l=>
    simp only[yI]at h
    cases hx:Gn x 2000 with
    |true=>rw[hx]at h;simp only[cT,h1,Bool.and_false]at h;cases h
    |false=>
     rw[hx]at h
     simp only[cond_false]at h
     cases hx4:Gn x 4000 with
     |false=>rw[hx4]at h;simp only[cond_false,h1]at h;cases h
     |true=>
      rw[hx4]at h
      simp only[cT]at h
      have h2:=E4 h
      have h3:¬x<2000:=fun hh=>by rw[Gk.mpr hh]at hx;cases hx
      have h4:x=2000+k:=by omega
      rw[show(x::l).headD 0=x from rfl,h4,Ss]at hk
      cases hk
theorem qrv {l:List Nat}{x:Nat}(h:(!(l.contains x))=E3):l.contains x=E6:=by
 cases hc:l.contains x with
 |false=>rfl
 |true=>rw[hc]at h;cases h
theorem Tl {Tm Tn:Option (List Nat)}{b b':Nat}(h:C5 Tm Tn=E3)(h1:yv h0 Tm b=E3)(h2:yv h0 Tn b'=E3):b≠b':=by
 intro hb
 subst hb
 cases Tm with
 |none=>cases h
 |some l=>
  cases Tn with
  |none=>cases h
  |some m=>
   simp only[C5,yv]at h h1 h2
   have inv:∀ {k:List Nat},nR k=E3→Gn (k.headD 0) 4000=E3→yI h0 k b=E3→(1000≤k.headD 0)∧((k.headD 0<2000∧b=k.headD 0-1000∧b<h0)∨(2000≤k.headD 0∧b=h0+(k.headD 0-2000))):=by
    intro k he h4 hq
    cases k with
    |nil=>cases he
    |cons x k=>
     refine⟨N2 he,?_⟩
     simp only[yI]at hq
     cases hx:Gn x 2000 with
     |true=>
      rw[hx]at hq
      simp only[cT,E1]at hq
      exact .inl ⟨Gk.mp hx,E4 hq.1,Gk.mp hq.2⟩
     |false=>
      rw[hx,show Gn x 4000=E3 from h4]at hq
      simp only[cond_false,cT]at hq
      have h3:¬x<2000:=fun hh=>by rw[Gk.mpr hh]at hx;cases hx
      exact .inr ⟨by show 2000≤x;omega,E4 hq⟩
   have old:∀ {k:List Nat} {r:Nat},b=h0+r→k.contains r=E6→(Gn b h0||k.contains (b-h0))=E3→False:=by
    intro k r gX hc hq
    have h3:Gn b h0=E6:=by
     cases hh:Gn b h0 with
     |false=>rfl
     |true=>have:=Gk.mp hh;omega
    rw[h3,N1,show b-h0=r by omega,hc]at hq
    cases hq
   cases hl:nR l with
   |true=>
    rw[hl]at h h1
    simp only[cT]at h h1
    cases hm:nR m with
    |true=>
     rw[hm]at h h2
     simp only[cT,E1]at h h2
     obtain⟨i1,i2⟩:=inv hl h.1.2 h1
     obtain⟨i3,i4⟩:=inv hm h.2 h2
     have bw:l.headD 0≠m.headD 0:=fun e=>by rw[e,Ss]at h;exact absurd h.1.1 (by simp)
     omega
    |false=>
     rw[hm]at h h2
     simp only[cond_false,E1]at h h2
     obtain⟨i1,i2⟩:=inv hl h.1.2 h1
     have h3:=N2 h.1.1
     exact old (by omega) (qrv h.2) h2
   |false=>
    rw[hl]at h h1
    simp only[cond_false,E1]at h h1
    obtain⟨⟨⟨h3,h4⟩,h6⟩,h5⟩:=h
    rw[h3]at h2
    simp only[cT]at h2
    obtain⟨i3,i4⟩:=inv h3 h6 h2
    have h4:=N2 h4
    exact old (by omega) (qrv h5) h1
theorem Tp {F:j8→Option qq}{h:j8}{r:qq}{k:Nat}(H:HB h0 al F h r .take k):HB h0 al F h r .write k:=by
 obtain⟨b,cs,v,o,hb,hc,hv,hs,h4⟩:=H
 have aX:b<h.length:=(E2.1 hc).1
 refine⟨b,.cells (cs.set k (v,E6)),hb,by rw[hc];rfl,rfl,by rw[hs];exact zQ aX,fun h' h3 hh bm=>?_⟩
 rw[h4 h' cs (by rw[hh];exact hc) hv]
 obtain⟨_,s2⟩:=wS bm
 rw[s2]
theorem jid {ca cb:jq}{ka kb:Nat}{oP oQ:Option (List Nat)}{Fa Fb:j8→Option qq}{h:j8}{ra rb:qq}(wT:Fb h=En rb)(FE:Fa rb.heap=En ra)(Hb:HB h0 oQ Fb h rb cb kb)(Ha:HB h0 oP Fa rb.heap ra ca ka)
  (dx:cb=.read∨cb=.write∨cb=.take) (dG:ca=.read∨ca=.write∨ca=.take) (qA:C5 oQ oP=E3):
  ∃h1,Fa h=En (ra.at h1)∧Fb h1=En (rb.at ra.heap):=by
 have hat:∀r:qq,r.at r.heap=r:=fun _=>rfl
 have wb:(cb=.read∧HB h0 oQ Fb h rb .read kb)∨HB h0 oQ Fb h rb .write kb:=by
  rcases dx with rfl|rfl|rfl
  ·exact .inl ⟨rfl,Hb⟩
  ·exact .inr Hb
  ·exact .inr (Tp Hb)
 have wa:(ca=.read∧HB h0 oP Fa rb.heap ra .read ka)∨HB h0 oP Fa rb.heap ra .write ka:=by
  rcases dG with rfl|rfl|rfl
  ·exact .inl ⟨rfl,Ha⟩
  ·exact .inr Ha
  ·exact .inr (Tp Ha)
 rcases wb with⟨_,h1,h2⟩|⟨b,x,hb,_,_,hs,h2⟩
 ·rcases wa with⟨_,h3,h4⟩|⟨b',y,eT,_,_,gA,h4⟩
  ·exact⟨h,h4 h (fun b _ _=>by rw[h1]),by rw[h3,hat];exact wT⟩
  ·rw[h1]at gA
   obtain⟨s1,s2⟩:=wS gA
   refine⟨ra.heap,by rw[hat,←FE,h1],h2 _ (fun b hb _=>?_)⟩
   rw[s2,I (Gp (Tl qA hb eT))]
 ·obtain⟨s1,s2⟩:=wS hs
  rcases wa with⟨_,h3,h4⟩|⟨b',y,eT,_,_,gA,h4⟩
  ·refine⟨h,h4 h (fun b' eT _=>?_),by rw[h3,hat];exact wT⟩
   rw[s2,I (Tl qA hb eT)]
  ·obtain⟨s3,s4⟩:=wS gA
   have bw:=Tl qA hb eT
   rw[s2,Mx]at s3
   refine⟨h.set b' y,h4 _ _ (by rw[s2,I bw]) (zQ s3),h2 _ _ (by rw[I (Gp bw)]) ?_⟩
   rw[zQ (by rw[Mx];exact s1),s4,s2,Gl _ _ (Gp bw)]
def MC (ca cb:jq)(ka kb:Nat)(oP oQ:Option (List Nat)):Prop:=
 (cb=.nq∧ca=.nq∧kb % 1000≠ka % 1000∧kb / 1000≠ka / 1000)∨(cb=.nq∧(ca=.read∨ca=.write∨ca=.take)∧oH oP=E3)∨((cb=.read∨cb=.write∨cb=.take)∧ca=.nq∧oH oQ=E3)
theorem jof {ca cb:jq}{ka kb:Nat}{oP oQ:Option (List Nat)}{Fa Fb:j8→Option qq}{h:j8}{ra rb:qq}(wT:Fb h=En rb)(FE:Fa rb.heap=En ra)(Hb:HB h0 oQ Fb h rb cb kb)(Ha:HB h0 oP Fa rb.heap ra ca ka)
  (df:MC ca cb ka kb oP oQ):∃h1,Fa h=En (ra.at h1)∧Fb h1=En (rb.at ra.heap):=by
 have hat:∀r:qq,r.at r.heap=r:=fun _=>rfl
 have FF:∀ {c:jq} {k:Nat} {al:Option (List Nat)} {F:j8→Option qq} {g:j8} {r:qq},HB h0 al F g r c k→(c=.read∨c=.write∨c=.take)→HB h0 al F g r .read k∨HB h0 al F g r .write k:=by
  intro c k al F g r H hc
  rcases hc with rfl|rfl|rfl
  ·exact .inl H
  ·exact .inr H
  ·exact .inr (Tp H)
 have nvs:∀ {x:qn} {z:Nat},Tj x=En z→nV (En x)=E6:=fun {x z} h=>by cases x<;>first|rfl|cases h
 rcases df with⟨rfl,rfl,n1,n2⟩|⟨rfl,dG,hs⟩|⟨dx,rfl,hs⟩
 ·obtain⟨q,x,y,hq,hy,hh,hx,hF⟩:=Hb
  obtain⟨q',x',y',Mw,zA,Tq,fg,hF'⟩:=Ha
  have aX:q<h.length:=(E2.1 hy).1
  have bw:q≠q':=by
   intro he
   subst he
   rw[hh,Hd aX]at zA
   cases zA
   rcases Mw with⟨_,rfl⟩|h4
   ·cases hx
   ·rw[hx]at h4;exact n2 (En.inj h4)
  rw[hh,I bw]at zA
  refine⟨h.set q' x',hF' h zA,?_⟩
  rw[hF _ (by rw[I (Gp bw)];exact hy),Tq,hh,Gl _ _ bw]
 ·obtain⟨q,x,y,hq,hy,hh,hx,hF⟩:=Hb
  have aX:q<h.length:=(E2.1 hy).1
  -- the box that the append wrote is a vector now
  have cW:nV rb.heap[q]?=E6:=by rw[hh,Hd aX];exact nvs hx
  rcases FF Ha dG with⟨h3,h4⟩|⟨b,z,hb,hn,Ts,hz,h4⟩
  ·refine⟨h,h4 h (fun b hb hn=>?_),by rw[h3,hat];exact wT⟩
   have bw:b≠q:=fun e=>by subst e;rw[hn hs]at cW;cases cW
   rw[hh,I (Gp bw)]
  ·have bw:b≠q:=fun e=>by subst e;rw[hn]at cW;cases cW
   obtain⟨s1,s2⟩:=wS hz
   rw[hh,Mx]at s1
   refine⟨h.set b z,h4 _ _ (by rw[hh,I (Gp bw)]) (zQ s1),?_⟩
   rw[hF _ (by rw[I bw];exact hy),s2,hh,Gl _ _ bw]
 ·obtain⟨q,x,y,hq,hy,hh,hx,hF⟩:=Ha
  have hold:nV (En y)=E6:=by
   rcases hq with⟨_,rfl⟩|h1
   ·rfl
   ·exact nvs h1
  rcases FF Hb dx with⟨h3,h4⟩|⟨b,z,hb,hn,Ts,hz,h4⟩
  ·rw[h3]at hy hh
   refine⟨h.set q x,hF h hy,?_⟩
   rw[h4 (h.set q x) (fun b hb hn=>by
    have bw:b≠q:=fun e=>by subst e;rw[hy]at hn;rw[hold]at hn;exact absurd (hn hs) (by simp)
    rw[I (Gp bw)]),hh]
  ·obtain⟨s1,s2⟩:=wS hz
   have bw:b≠q:=by
    intro e
    subst e
    rw[s2,Hd s1]at hy
    rw[En.inj hy,hold]at Ts
    cases Ts
   rw[s2,I bw]at hy
   refine⟨h.set q x,hF h hy,h4 _ _ (by rw[I (Gp bw)]) ?_⟩
   rw[zQ (by rw[Mx];exact s1),hh,s2,Gl _ _ (Gp bw)]
theorem jm9 {ca cb:jq}{ka kb:Nat}{oP oQ:Option (List Nat)}{Fa Fb:j8→Option qq}{h:j8}{ra rb:qq}(wT:Fb h=En rb)(FE:Fa rb.heap=En ra)(Hb:HB h0 oQ Fb h rb cb kb)(Ha:HB h0 oP Fa rb.heap ra ca ka)
  (df:cb=.pure∨ca=.pure∨(cb=.read∧ca=.read)∨(cb=.alloc∧ca=.alloc∧kb≠ka)∨(cb=.alloc∧(ca=.read∨ca=.write∨ca=.take)∧mc oP kb=E6)∨((cb=.read∨cb=.write∨cb=.take)∧ca=.alloc∧mc oQ ka=E6)∨(cb=.take∧ca=.take∧kb≠ka)):
  ∃h1,Fa h=En (ra.at h1)∧Fb h1=En (rb.at ra.heap):=by
 have hat:∀r:qq,r.at r.heap=r:=fun _=>rfl
 rcases df with rfl|rfl|⟨rfl,rfl⟩|⟨rfl,rfl,bw⟩|⟨rfl,dG,nY⟩|⟨dx,rfl,nY⟩|⟨rfl,rfl,bw⟩
 ·obtain⟨h1,h2⟩:=Hb
  exact⟨ra.heap,by rw[hat,←FE,h1],h2 _⟩
 ·obtain⟨h1,h2⟩:=Ha
  exact⟨h,h2 _,by rw[h1,hat];exact wT⟩
 ·obtain⟨h1,h2⟩:=Hb
  obtain⟨h3,h4⟩:=Ha
  exact⟨h,h4 h (fun b _ _=>by rw[h1]),by rw[h3,hat];exact wT⟩
 ·obtain⟨x,n1,n2⟩:=Hb
  obtain⟨y,n3,n4⟩:=Ha
  obtain⟨i1,i2⟩:=li n1
  obtain⟨i3,i4⟩:=li n3
  rw[i2,I (by omega)]at i3
  refine⟨h.set (h0+ka) y,n4 _ _ (Dk i3),n2 _ _ ?_⟩
  rw[Dk (by rw[I (by omega)];exact i1),i4,i2,Gl _ _ (by omega)]
 ·obtain⟨x,n1,n2⟩:=Hb
  obtain⟨i1,i2⟩:=li n1
  rcases dG with rfl|rfl|rfl
  ·obtain⟨h3,h4⟩:=Ha
   refine⟨h,h4 h (fun b hb _=>?_),by rw[h3,hat];exact wT⟩
   rw[i2,I (Gp (Dl hb nY))]
  ·obtain⟨b,y,hb,_,_,hs,h4⟩:=Ha
   obtain⟨s1,s2⟩:=wS hs
   have bw:=Dl hb nY
   rw[i2,Mx]at s1
   refine⟨h.set b y,h4 _ _ (by rw[i2,I (Gp bw)]) (zQ s1),n2 _ _ ?_⟩
   rw[Dk (by rw[I bw];exact i1),s2,i2,Gl _ _ bw]
  ·obtain⟨b,cs,v,o,hb,hc,hv,hs,h4⟩:=Ha
   have bw:=Dl hb nY
   rw[i2,I (Gp bw)]at hc
   refine⟨_,h4 _ _ hc hv,n2 _ _ ?_⟩
   rw[Dk (by rw[I bw];exact i1),hs,i2,Gl _ _ bw]
 ·obtain⟨y,n3,n4⟩:=Ha
  obtain⟨i3,i4⟩:=li n3
  rcases dx with rfl|rfl|rfl
  ·obtain⟨h1,h2⟩:=Hb
   refine⟨ra.heap,by rw[hat,←FE,h1],h2 _ (fun b hb _=>?_)⟩
   rw[i4,h1,I (Gp (Dl hb nY))]
  ·obtain⟨b,x,hb,_,_,hs,h2⟩:=Hb
   obtain⟨s1,s2⟩:=wS hs
   have bw:=Dl hb nY
   rw[s2,I bw]at i3
   refine⟨h.set (h0+ka) y,n4 _ _ (Dk i3),h2 _ _ (by rw[I (Gp bw)]) ?_⟩
   rw[zQ (by rw[Mx];exact s1),i4,s2,Gl _ _ (Gp bw)]
  ·obtain⟨b,cs,v,o,hb,hc,hv,hs,h2⟩:=Hb
   have bw:=Dl hb nY
   rw[hs,I bw]at i3
   refine⟨h.set (h0+ka) y,n4 _ _ (Dk i3),?_⟩
   rw[h2 _ cs (by rw[I (Gp bw)];exact hc) hv,i4,hs,Gl _ _ (Gp bw)]
 ·obtain⟨b,cs,v,o,hb,hc,hv,hs,h2⟩:=Hb
  obtain⟨b',dQ,v',o',eT,dy,zR,gA,h4⟩:=Ha
  have aX:b<h.length:=(E2.1 hc).1
  by_cases Dm:b'=b
  ·subst Dm
   rw[hs,Hd aX]at dy
   cases dy
   rw[I bw]at zR
   refine⟨h.set b' (.cells (cs.set ka (v',E6))),h4 h cs hc zR,?_⟩
   rw[h2 _ (cs.set ka (v',E6)) (by rw[Hd aX]) (by rw[I (Gp bw)];exact hv),gA,hs]
   simp only[List.set_set]
   rw[Gl _ _ bw]
  ·rw[hs,I (Gp Dm)]at dy
   refine⟨h.set b' (.cells (dQ.set ka (v',E6))),h4 h dQ dy zR,?_⟩
   rw[h2 _ cs (by rw[I Dm];exact hc) hv,gA,hs,Gl _ _ Dm]
end
section
variable {p:qt}{xc:XC}{h0:Nat}
def lv (p:qt)(xc:XC)(h0:Nat)(o:qv)(e:Env)(h:j8):Option qq:=
 match l7 e o.guard with
 |some E3=>za p xc h0 o.al e h o.op
 |some E6=>En ⟨.undef,E6,none,h⟩
 |none=>none
def oR (o:qv)(e:Env)(r:qq):Env:=nj (k9 e r.strip) o.dst r.v r.own
theorem Dn (o:qv)(st:qg):iC p xc h0 o st=(lv p xc h0 o st.env st.heap).map fun r=>⟨oR o st.env r,r.heap⟩:=by
 unfold iC lv
 cases hg:l7 st.env o.guard with
 |none=>rfl
 |some b=>
  cases b with
  |false=>rfl
  |true=>
   simp only[]
   cases za p xc h0 o.al st.env st.heap o.op<;>rfl
theorem q1e {e e':Env}{g:Option (Nat×Bool)}(h:Agree (match g with|some g=>[g.1]|none=>[]) e e'):l7 e g=l7 e' g:=by
 cases g with
 |none=>rfl
 |some g=>simp only[l7,h g.1 (by simp)]
theorem Tt {o:qv}{e e':Env}{h:j8}(ha:Agree o.reads e e'):lv p xc h0 o e h=lv p xc h0 o e' h:=by
 have h1:Agree o.op.reads e e':=(Agree.app ha).1
 have h2:=(Agree.app ha).2
 simp only[lv,q1e h2,q14 h1]
theorem q51 {h0 r:Nat}{h:j8}{v:qa}{o:Bool}{res:qq}(hs:py h0 h r v o=En res):res.strip=none:=by
 unfold py at hs
 simp only[Gq,val]at hs
 repeat' split at hs
 all_goals first
  |(cases hs;done)
  |(cases hs;rfl)
theorem q05 {al:Option (List Nat)}{e:Env}{h:j8}{op:qw}{r:qq}(hs:za p xc h0 al e h op=En r){s:Nat}(hr:r.strip=En s):s∈op.fc:=by
 have own:∀ {x:qh},kg e x=En s→s∈yx x:=by
  intro x h
  obtain⟨rfl,_⟩:=EQ h
  simp[yx]
 have nC:∀ {x:qa},val h x=En r→False:=fun hv=>by rw[zx hv]at hr;cases hr
 have zS:∀ {x:Option qa},fU h x=En r→False:=fun hv=>by obtain⟨_,_,h1⟩:=ug hv;rw[h1]at hr;cases hr
 cases op with
 |take t=>
  simp only[za,zi]at hs
  split at hs
  ·cases hs;simp at hr;simp[qw.fc,hr]
  ·cases hs
 |append rk sz b x y=>
  cases rk with
  |some rk=>
   simp only[za,zm,Gq]at hs
   repeat' split at hs
   all_goals first
    |(cases hs;done)
    |(cases hs;exact own hr)
  |none=>
   simp only[za,zi,Gq]at hs
   repeat' split at hs
   all_goals first
    |(cases hs;done)
    |(cases hs;exact own hr)
 |store n x y=>
  simp only[za,zm,Gq]at hs
  repeat' split at hs
  all_goals first
   |(cases hs;done)
   |exact(nC hs).elim
   |(rename_i ht _ _ _ _;cases hs;simp only[En.injEq]at hr;subst hr;exact own ht)
   |(unfold val at hs;cases hs;cases hr;done)
   |skip
 |bV rk sz b z n c=>
  cases rk with
  |some rk=>
   simp only[za,zm,Gq]at hs
   repeat' split at hs
   all_goals first
    |(cases hs;done)
    |exact(nC hs).elim
    |(unfold val at hs;cases hs;cases hr;done)
  |none=>
   simp only[za,zi,Gq]at hs
   repeat' split at hs
   all_goals first
    |(cases hs;done)
    |(cases hs;cases hr;done)
 |call md f l=>
  cases md<;>simp only[za,iB,Gq]at hs
  all_goals
   repeat' split at hs
  all_goals first
   |(cases hs;done)
   |exact(nC hs).elim
   |(cases hs;cases hr;done)
   |(rw[q51 hs]at hr;cases hr;done)
 |_=>
  simp only[za,zi,gT,zm,Gq]at hs
  repeat' split at hs
  all_goals first
   |(cases hs;done)
   |exact(nC hs).elim
   |exact(zS hs).elim
   |(cases hs;cases hr;done)
   |(unfold val at hs;cases hs;cases hr;done)
theorem qwz {o:qv}{e:Env}{h:j8}{r:qq}(hs:lv p xc h0 o e h=En r){s:Nat}(hr:r.strip=En s):s∈o.op.fc:=by
 unfold lv at hs
 split at hs
 ·exact q05 hs hr
 ·cases hs;cases hr
 ·cases hs
theorem Dp {s:Nat}{x:qa×Bool}{e:Env}:yd s ((s,x)::e)=En x:=by
 simp only[yd,Ss,cT]
theorem MD {s t:Nat}{x:qa×Bool}{e:Env}(h:s≠t):yd s ((t,x)::e)=yd s e:=by
 have:If t s=E6:=by
  cases hb:If t s with
  |false=>rfl
  |true=>exact absurd (E4 hb).symm h
 simp only[yd,this,cond_false]
theorem Tv {s:Nat}{e:Env}{x:Option Nat}(h:∀t,x=En t→s≠t):yd s (k9 e x)=yd s e:=by
 cases x with
 |none=>rfl
 |some t=>
  simp only[k9]
  split
  ·exact MD (h t rfl)
  ·rfl
theorem qvb {s:Nat}{e e':Env}{x:Option Nat}(h:yd s e=yd s e'):yd s (k9 e x)=yd s (k9 e' x):=by
 cases x with
 |none=>exact h
 |some t=>
  by_cases bS:s=t
  ·subst bS
   simp only[k9]
   rw[←h]
   cases hl:yd s e with
   |none=>simp only[];rw[hl,←h,hl]
   |some y=>simp only[];rw[Dp,Dp]
  ·rw[Tv (fun u hu=>by cases hu;exact bS),Tv (fun u hu=>by cases hu;exact bS)]
   exact h
theorem Tw {s:Nat}{e:Env}{d:Option Nat}{v:qa}{o:Bool}(h:∀t,d=En t→s≠t):yd s (nj e d v o)=yd s e:=by
 cases d with
 |none=>rfl
 |some t=>exact MD (h t rfl)
theorem qzr {s:Nat}{e e':Env}{d:Option Nat}{v:qa}{o:Bool}(h:yd s e=yd s e'):yd s (nj e d v o)=yd s (nj e' d v o):=by
 cases d with
 |none=>exact h
 |some t=>
  by_cases bS:s=t
  ·subst bS;simp only[nj];rw[Dp,Dp]
  ·rw[Tw (fun u hu=>by cases hu;exact bS),Tw (fun u hu=>by cases hu;exact bS)];exact h
theorem Tx {o:qv}{s:Nat}{e e':Env}{r:qq}(h:yd s e=yd s e'):yd s (oR o e r)=yd s (oR o e' r):=qzr (qvb h)
theorem Dq {o:qv}{s:Nat}{e:Env}{r:qq}(hr:∀t,r.strip=En t→t∈o.op.fc)(h:s ∉ o.writes):yd s (oR o e r)=yd s e:=by
 unfold oR
 rw[Tw,Tv]
 ·intro t ht bS
  exact h (Sb _ (bS▸hr t ht))
 ·intro t ht bS
  exact h (Sg _ (by rw[ht,bS];simp))
theorem jco {o:qv}{e:Env}{r:qq}{h:j8}:oR o e (r.at h)=oR o e r:=rfl
def iO (a b:qg):Prop:=a.heap=b.heap∧∀s,yd s a.env=yd s b.env
theorem iO.refl (a:qg):iO a a:=⟨rfl,fun _=>rfl⟩
theorem iO.trans {a b c:qg}(h:iO a b)(k:iO b c):iO a c:=⟨h.1.trans k.1,fun s=>(h.2 s).trans (k.2 s)⟩
theorem qzc {o:qv}{a b a':qg}(h:iO a b)(hs:iC p xc h0 o a=En a'):∃b',iC p xc h0 o b=En b'∧iO a' b':=by
 rw[Dn]at hs
 obtain⟨r,hr,rfl⟩:=Mn.1 hs
 rw[Tt (e':=b.env) (fun s _=>h.2 s),h.1]at hr
 refine⟨⟨oR o b.env r,r.heap⟩,by rw[Dn,hr];rfl,rfl,fun s=>Tx (h.2 s)⟩
theorem qwm:∀ {l:List qv} {a b a':qg},iO a b→fD p xc h0 l a=En a'→∃b',fD p xc h0 l b=En b'∧iO a' b'
 | [],a,b,a',h,hs=>by simp only[fD,En.injEq]at hs ⊢;subst hs;exact⟨b,rfl,h⟩
 |o::l,a,b,a',h,hs=>by
  simp only[fD]at hs
  split at hs
  ·rename_i a1 h1
   obtain⟨b1,k1,k2⟩:=qzc h h1
   obtain⟨b',k3,k4⟩:=qwm k2 hs
   exact⟨b',by simp only[fD,k1,k3],k4⟩
  ·cases hs
theorem jcs {o:qv}{e:Env}{h:j8}{r:qq}(hs:lv p xc h0 o e h=En r):∃c k,HB h0 o.al (lv p xc h0 o e) h r c k∧(c=.pure∨(c=o.op.cl∧k=o.op.cA)):=by
 unfold lv at hs
 cases hg:l7 e o.guard with
 |none=>rw[hg]at hs;cases hs
 |some b=>
  cases b with
  |false=>
   rw[hg]at hs
   cases hs
   exact⟨.pure,0,⟨rfl,fun h'=>by simp only[lv,hg];rfl⟩,.inl rfl⟩
  |true=>
   rw[hg]at hs
   have:=jca hs
   have heq:(fun h=>za p xc h0 o.al e h o.op)=lv p xc h0 o e:=by
    funext h;simp only[lv,hg]
   rw[heq]at this
   exact⟨_,_,this,.inr ⟨rfl,rfl⟩⟩
theorem jax {a b:qv}(h:RY a b=E3):a.op.cl=.pure∨b.op.cl=.pure∨a.op.cl=.fa∨b.op.cl=.fa∨(a.op.cl=.read∧b.op.cl=.read)∨(a.op.cl=.alloc∧b.op.cl=.alloc∧a.op.cA≠b.op.cA) ∨
  (a.op.cl=.alloc∧(b.op.cl=.read∨b.op.cl=.write∨b.op.cl=.take)∧mc b.al a.op.cA=E6)∨((a.op.cl=.read∨a.op.cl=.write∨a.op.cl=.take)∧b.op.cl=.alloc∧mc a.al b.op.cA=E6)∨(a.op.cl=.take∧b.op.cl=.take∧a.op.cA≠b.op.cA)∨((a.op.cl=.read∨a.op.cl=.write∨a.op.cl=.take)∧(b.op.cl=.read∨b.op.cl=.write∨b.op.cl=.take)∧C5 a.al b.al=E3)∨MC b.op.cl a.op.cl b.op.cA a.op.cA b.al a.al:=by
 unfold RY at h
 rw[S1]at h
 rcases h with h|h
 ·simp only[E1]at h
  obtain⟨⟨h1,h2⟩,h3⟩:=h
  have hb:∀ {c:jq},c.box=E3→c=.read∨c=.write∨c=.take:=fun {c} hc=>by cases c<;>first|(cases hc;done)|simp
  simp only[hb h1,hb h2,h3,and_self,or_true,true_or]
 unfold MC
 cases ha:a.op.cl<;>cases hb:b.op.cl<;>simp_all
theorem Ty {a b:List Nat}(h:ED a b=E3){s:Nat}(hs:s∈a):s ∉ b:=by
 unfold ED at h
 rw[Md]at h
 have:=h s hs
 simpa using this
theorem zey {a b:qv}{st s1 s2:qg}(hm:yP b a=E3)(h1:iC p xc h0 b st=En s1)(h2:iC p xc h0 a s1=En s2):
  ∃t1 t2,iC p xc h0 a st=En t1∧iC p xc h0 b t1=En t2∧iO s2 t2:=by
 rw[Dn]at h1
 obtain⟨rb,hb,rfl⟩:=Mn.1 h1
 rw[Dn]at h2
 obtain⟨ra,ha,rfl⟩:=Mn.1 h2
 simp only[yP,E1]at hm
 obtain⟨⟨⟨hc,d1⟩,d2⟩,d3⟩:=hm
 have sb:∀t,rb.strip=En t→t∈b.op.fc:=fun t ht=>qwz hb ht
 have sa:∀t,ra.strip=En t→t∈a.op.fc:=fun t ht=>qwz ha ht
 -- the later one reads nothing that the earlier one writes
 have ME:lv p xc h0 a st.env rb.heap=En ra:=by
  rw[←ha]
  refine Tt fun s hs=>(Dq sb ?_).symm
  exact fun hw=>Ty d1 hw hs
 obtain⟨cb,kb,Hb,ob⟩:=jcs hb
 obtain⟨ca,ka,Ha,oa⟩:=jcs ME
 have qA:((cb=.read∨cb=.write∨cb=.take)∧(ca=.read∨ca=.write∨ca=.take)∧C5 b.al a.al=E3)∨(cb=.pure∨ca=.pure∨(cb=.read∧ca=.read)∨(cb=.alloc∧ca=.alloc∧kb≠ka)∨(cb=.alloc∧(ca=.read∨ca=.write∨ca=.take)∧mc a.al kb=E6)∨((cb=.read∨cb=.write∨cb=.take)∧ca=.alloc∧mc b.al ka=E6)∨(cb=.take∧ca=.take∧kb≠ka))∨MC ca cb ka kb a.al b.al:=by
  rcases ob with rfl|⟨rfl,rfl⟩
  ·exact .inr (.inl (.inl rfl))
  rcases oa with rfl|⟨rfl,rfl⟩
  ·exact .inr (.inl (.inr (.inl rfl)))
  rcases jax hc with h|h|h|h|h|h|h|h|h|h|h
  ·exact .inr (.inl (.inl h))
  ·exact .inr (.inl (.inr (.inl h)))
  ·rw[h]at Hb;exact Hb.elim
  ·rw[h]at Ha;exact Ha.elim
  ·exact .inr (.inl (.inr (.inr (.inl h))))
  ·exact .inr (.inl (.inr (.inr (.inr (.inl h)))))
  ·exact .inr (.inl (.inr (.inr (.inr (.inr (.inl h))))))
  ·exact .inr (.inl (.inr (.inr (.inr (.inr (.inr (.inl h)))))))
  ·exact .inr (.inl (.inr (.inr (.inr (.inr (.inr (.inr h)))))))
  ·exact .inl h
  ·exact .inr (.inr h)
 have hsw:∃h1,lv p xc h0 a st.env st.heap=En (ra.at h1)∧lv p xc h0 b st.env h1=En (rb.at ra.heap):=by
  rcases qA with⟨q1,q2,q3⟩|df|df
  ·exact jid hb ME Hb Ha q1 q2 q3
  ·exact jm9 hb ME Hb Ha df
  ·exact jof hb ME Hb Ha df
 obtain⟨h3,k1,k2⟩:=hsw
 have k2':lv p xc h0 b (oR a st.env (ra.at h3)) h3=En (rb.at ra.heap):=by
  rw[←k2]
  refine Tt fun s hs=>Dq (fun t ht=>sa t ht) ?_
  exact fun hw=>Ty d3 hw hs
 refine⟨⟨oR a st.env (ra.at h3),h3⟩,⟨oR b (oR a st.env (ra.at h3)) (rb.at ra.heap),ra.heap⟩,by rw[Dn,k1];rfl,by rw[Dn];simp only[k2'];rfl,rfl,fun s=>?_⟩
 simp only[jco]
 by_cases hw:s∈a.writes
 ·have Dg:s ∉ b.writes:=fun h=>Ty d2 h hw
  rw[Dq sb Dg]
  exact Tx (Dq sb Dg)
 ·rw[Dq sa hw]
  exact Tx (Dq sa hw).symm
theorem qyb:∀ {l1 l2:List qv} {a:qv} {st s2:qg},(∀b∈l1,yP b a=E3)→fD p xc h0 (l1++a::l2) st=En s2 →
  ∃t1 t2,iC p xc h0 a st=En t1∧fD p xc h0 (l1++l2) t1=En t2∧iO s2 t2
 | [],l2,a,st,s2,_,hs=>by
  simp only[List.nil_append,fD]at hs
  split at hs
  ·rename_i t1 h1;exact⟨t1,s2,h1,hs,iO.refl _⟩
  ·cases hs
 |b::l1,l2,a,st,s2,hm,hs=>by
  simp only[Sx,fD]at hs
  split at hs
  ·rename_i s h1
   obtain⟨u1,u2,h2,h3,h4⟩:=qyb (fun c hc=>hm c (by simp[hc])) hs
   obtain⟨t1,t2,h5,h6,h7⟩:=zey (hm b (by simp)) h1 h2
   obtain⟨u3,h8,h9⟩:=qwm h7 h3
   exact⟨t1,u3,h5,by simp only[Sx,fD,h6,h8],h4.trans h9⟩
  ·cases hs
end
def cX (P:Program)(w0:World)(C0 C:ay)(nt:Nat)(st:qg)(a:Act)(w:World):Prop:=
 a.tmps.size=nt∧∃C' ω',C.le C'∧Marks C' w0.heap.size a.defers∧av P C' ω' w0 C0 st.heap w∧aj C' ω' w w0.heap.size st.env a.tmps
structure js (P:Program)(nt:Nat)(ops:Array Oper)(o:Oper)(ao:qv):Prop where
 op:∃h md r,(cx P h md r o.dst o.op).getD .bad=ao.op
 guard:CZ ops o.guard=En ao.guard
 dst:ao.dst=ao.op.wC o.dst
 fits:∀d,o.dst=En d→d<nt
 vfits:∀d,ao.op.gH=En d→d<nt
 FG:∀d,ao.op.gH=En d→o.dst=none∧o.guard=none
section
variable {P:Program}{p:qt}{xc:XC}{C C0:ay}{w0:World}{nt h0:Nat}{ops:Array Oper}{ρ:Option Nat}
theorem cX.eqv {st bJ:qg}{a:Act}{w:World}(h:cX P w0 C0 C nt st a w)(he:iO st bJ):cX P w0 C0 C nt bJ a w:=by
 obtain⟨h1,C',ω',h3,h2,h4,h5⟩:=h
 exact⟨h1,C',ω',h3,h2,he.1▸h4,fun s x hx=>h5 s x (by rw[he.2 s];exact hx)⟩
theorem aj.putAt {ω:Nat→Option Loc}{w:World}{B d:Nat}{e:Env}{tmps:Array Value}{v:qa}{u:Value}{o:Bool}(he:aj C ω w B e tmps)(hd:d<tmps.size)(hr:bD C v u)(ho:o=E3→aF C ω w B (.slot d) v u):aj C ω w B ((d,v,o)::e) (tmps.setIfInBounds d u):=by
 intro s x hx
 by_cases Tz:s=d
 ·subst Tz
  rw[Dp]at hx
  cases hx
  exact⟨u,by simp[hd],hr,ho⟩
 ·rw[MD Tz]at hx
  obtain⟨y,h1,h2,h3⟩:=he s x hx
  exact⟨y,by rw[Array.getElem?_setIfInBounds_ne (Gp Tz)];exact h1,h2,h3⟩
theorem jbm {ao:qv}{st:qg}{a:Act}{w:World}{C1:ay}{ω1:Nat→Option Loc}{e:Env}{h:j8}{v:qa}{u:Value}{own:Bool}{o:Oper}(hd:ao.dst=o.dst)(hf:∀d,o.dst=En d→d<nt)(hs:a.tmps.size=nt)(jR:Marks C1 w0.heap.size a.defers)(hle:C.le C1)(m:av P C1 ω1 w0 C0 h w)(he:aj C1 ω1 w w0.heap.size e a.tmps)(hr:bD C1 v u)(ho:own=E3→aF C1 ω1 w w0.heap.size (.slot (o.dst.getD 0)) v u):
  cX P w0 C0 C nt ⟨nj e ao.dst v own,h⟩ (a.put o.dst u) w:=by
 rw[hd]
 cases MF:o.dst with
 |none=>exact⟨hs,C1,ω1,hle,jR,m,he⟩
 |some d=>
  rw[MF]at ho
  refine⟨by simpa[Act.put]using hs,C1,ω1,hle,jR,m,?_⟩
  exact he.putAt (hs▸hf d MF) hr ho
theorem qz9 {o:Oper}{ao:qv}{e:Env}{tmps:Array Value}{ω:Nat→Option Loc}{w:World}{B:Nat}{b:Bool}(he:aj C ω w B e tmps)(hg:CZ ops o.guard=En ao.guard)(hb:l7 e ao.guard=En b):Region.wanted o (yielded ops tmps)=b:=by
 unfold Region.wanted
 cases hog:o.guard with
 |none=>
  rw[hog]at hg
  simp only[CZ,En.injEq]at hg
  rw[←hg]at hb
  simp only[l7,En.injEq]at hb
  exact hb
 |some g=>
  obtain⟨j,want⟩:=g
  rw[hog]at hg
  simp only[CZ]at hg
  split at hg
  ·rename_i d hd
   have hgd:=En.inj hg
   rw[←hgd]at hb
   simp only[l7]at hb
   split at hb
   ·rename_i c ow hl
    cases hb
    obtain⟨v,h1,h2,_⟩:=he d _ hl
    have:=h2.cS
    subst this
    simp only[yielded,hd,Sy,h1]
    cases c<;>cases want<;>rfl
   ·rename_i ow hl
    cases hb
    obtain⟨v,h1,h2,_⟩:=he d _ hl
    have hv:v=.tuple #[]:=by cases h2;rfl
    subst hv
    simp only[yielded,hd,Sy,h1]
    rfl
   ·cases hb
  ·cases hg
theorem q5o {h:qb}{md:jd}{r:Nat}{d:Option Nat}{op:Op}{n s:Nat}{y:qh}(FH:∀t x z,op≠.store t x z):(cx P h md r d op).getD .bad≠.dr n s y:=by
 intro hc
 cases jS:cx P h md r d op with
 |none=>rw[jS]at hc;cases hc
 |some a=>
  rw[jS]at hc
  simp only[Mm]at hc
  subst hc
  cases op<;>simp only[cx,cond_eq_ite]at jS<;>(try exact FH _ _ _ rfl)<;>(repeat' split at jS)<;>(try split at jS)<;>(try contradiction)<;>(try simp at jS)<;>(try (split at jS<;>simp at jS))<;>(try (unfold L3 at jS; (repeat' split at jS)<;>simp at jS))<;>(try (simp only[RW,CX]at jS; (repeat' split at jS)<;>simp at jS))<;>(try (simp only[yN]at jS; (repeat' split at jS)<;>(try contradiction)<;>(try simp at jS)<;>(try (split at jS<;>simp at jS))))
theorem q6j (ec:qx P p)(hx:b9 P xc){i:Nat}{o:Oper}{ao:qv}{st bJ:qg}{a:Act}{w:World}{Q:Exit→Act→World→Prop}{K:Act→World→Prop}(hi:ops[i]?=En o)(hr:js P nt ops o ao)(hs:iC p xc h0 ao st=En bJ)(bS:cX P w0 C0 C nt st a w)
  (hK:∀a' w',cX P w0 C0 C nt bJ a' w'→K a' w'):wpOpIn (iD ρ) 0 P ops Q i K a w:=by
 obtain⟨cD,C1,ω1,hle,jR,m,he⟩:=bS
 unfold wpOpIn
 rw[hi]
 simp only[]
 unfold iC at hs
 split at hs
 ·rename_i hg
  rw[qz9 he hr.guard hg]
  simp only[if_true]
  split at hs
  ·rename_i res dO
   cases hs
   obtain⟨h,md,r,hop⟩:=hr.op
   cases mF:ao.op.gH with
   |some sv=>
    -- the one write of a variable
    have zT:∃n y',ao.op=.dr n sv y':=by
     cases wU:ao.op<;>rw[wU]at mF<;>simp[qw.gH]at mF
     subst mF;exact⟨_,_,rfl⟩
    obtain⟨n,y',wU⟩:=zT
    have hdd:ao.dst=En sv:=by rw[hr.dst,wU];rfl
    rw[wU]at dO hop
    have bS:∃t x y,o.op=.store t x y∧yg P t=En n∧zr x=En (.tmp sv)∧zr y=En y':=by
     cases hoo:o.op<;>rw[hoo]at hop
     case store t x y=>
      simp only[cx]at hop
      split at hop
      ·rename_i n' x' yy hn h1 h2
       simp only[Mm]at hop
       cases ll:L4 h x' with
       |none=>rw[ll]at hop;cases hop
       |some s'=>
        rw[ll]at hop
        simp only[qw.dr.injEq]at hop
        obtain⟨rfl,rfl,rfl⟩:=hop
        refine⟨t,x,y,rfl,hn,?_,h2⟩
        unfold L4 at ll
        split at ll
        ·split at ll
         ·cases ll;exact h1
         ·cases ll
        ·cases ll
      ·cases hop
     all_goals exact absurd hop (q5o (by simp))
    obtain⟨t,x,y,ho,hn,h1,h2⟩:=bS
    simp only[za,zi]at dO
    split at dO
    ·rename_i mm v hl e2
     cases hk:(If mm n&&If v.flat.length n&&v.flat.all ze)with
     |false=>rw[hk]at dO;cases dO
     |true=>
      rw[hk]at dO
      simp only[cT,val,En.injEq]at dO
      subst dO
      simp only[E1]at hk
      obtain⟨⟨k1,k2⟩,k3⟩:=hk
      obtain rfl:=E4 k1
      obtain⟨w',C',ω',bp,cz,m',e'⟩:=q8c m he ho hn h1 h2 hl e2 (E4 k2) k3
      refine⟨fun _ _=>trivial,?_⟩
      rw[Oper.semAt_eq _ _ _ (fun c hc=>by rw[ho]at hc;cases hc),bp]
      have MF:o.dst=none:=(hr.FG sv mF).1
      refine hK _ _ ?_
      rw[MF,hdd]
      exact⟨cD,C',ω',ay.le_trans hle cz,jR.mono cz,m',e'⟩
    ·cases dO
   |none=>
   have qB:ao.dst=o.dst:=by rw[hr.dst];cases wU:ao.op<;>rw[wU]at mF<;>first|rfl|simp[qw.gH]at mF
   have bp:dR P C1 C0 w0 a (.slot (o.dst.getD 0)) st.env o w res:=by
    cases hc:cx P h md r o.dst o.op with
    |none=>rw[hc]at hop;simp only[Sz]at hop;rw[←hop]at dO;simp[za,zi]at dO
    |some cn=>rw[hc]at hop;simp only[Mm]at hop;subst hop;exact jrk ec hx m he mF hc dO
   have fin:∀v w',kf P C0 w0 C1 a.tmps (.slot (o.dst.getD 0)) st.env res v w'→K (a.put o.dst v) w':=by
    rintro v w' ⟨C2,ω2,h1,h2,h3,h4,h5⟩
    exact hK _ _ (jbm (st:=st) qB hr.fits cD (jR.mono h1) (ay.le_trans hle h1) h2 h3 h4 h5)
   refine⟨fun _ _=>trivial,?_⟩
   rw[Oper.semAt_eq _ _ _ (fun c hc=>by
    rw[hc]at hop
    simp only[cx,Sz]at hop
    rw[←hop]at dO
    simp[za,zi]at dO)]
   rcases bp with⟨v,w',h1,h2⟩|⟨w',h1,h2⟩|⟨f,args,h1,h2⟩|⟨l,f,tmps,assign,body,h1,h2⟩
   ·rw[h1];exact fin v w' h2
   ·rw[h1];exact fin undef w' h2
   ·rw[h1]
    refine⟨fun h=>by simp[iD,Fence.wide]at h,CallsIn.mono (qvs.2 h2) ?_⟩
    rintro e w' ⟨v,rfl,gD⟩
    exact fin v w' gD
   ·rw[h1]
    have nZ:RoundIn (iD ρ) 0 P l f tmps assign body w _:=h2
    refine⟨fun h=>by simp[iD,Fence.wide]at h,RoundIn.mono nZ ?_⟩
    rintro e w' ⟨v,rfl,gD⟩
    exact fin v w' gD
  ·cases hs
 ·rename_i hg
  cases hs
  rw[qz9 he hr.guard hg]
  simp only[Bool.false_eq_true,if_false]
  have qB:ao.dst=o.dst:=by
   cases mF:ao.op.gH with
   |none=>rw[hr.dst];cases wU:ao.op<;>rw[wU]at mF<;>first|rfl|simp[qw.gH]at mF
   |some sv=>
    have h1:=hr.guard
    rw[(hr.FG sv mF).2]at h1
    simp only[CZ,En.injEq]at h1
    rw[←h1]at hg
    simp[l7]at hg
  exact⟨fun _ _=>trivial,hK _ _ (jbm (st:=st) qB hr.fits cD jR hle m he .undef (by simp))⟩
 ·cases hs
inductive jo (P:Program)(nt:Nat)(ops:Array Oper):List Nat→List qv→Prop where
 |nil:jo P nt ops [] []
 |cons {i:Nat} {o:Oper} {ao:qv} {l:List Nat} {lo:List qv} (hi:ops[i]?=En o) (h:js P nt ops o ao) (t:jo P nt ops l lo):jo P nt ops (i::l) (ao::lo)
theorem q6q (ec:qx P p)(hx:b9 P xc){Q:Exit→Act→World→Prop}{bJ:qg}(hQ:∀a' w',cX P w0 C0 C nt bJ a' w'→Q .normal a' w'):∀ {l:List Nat} {lo:List qv} {st:qg} {a:Act} {w:World},jo P nt ops l lo→fD p xc h0 lo st=En bJ→cX P w0 C0 C nt st a w→wpOpsIn (iD ρ) 0 P ops Q l a w
 | [],_,st,a,w,.nil,hs,bS=>by
  simp only[fD,En.injEq]at hs
  subst hs
  exact hQ _ _ bS
 |i::l,_,st,a,w,.cons hi h t,hs,bS=>by
  simp only[fD]at hs
  split at hs
  ·rename_i s1 h1
   rw[wpOpsIn_cons]
   exact q6j ec hx hi h h1 bS fun a' w' gN=>q6q ec hx hQ t hs gN
  ·cases hs
theorem q0b {h:qb}{id:Nat}{gU:Array Nat}{draw:Bool}:∀ {os:List Oper} {i:Nat} {rs C4:List (Nat×Nat)} {l:List qv},EC P h nt id ops gU draw os i rs=En (l,C4)→(∀j,os[j]?=ops[i+j]?)→jo P nt ops (List.range' i os.length) l
 | [],i,rs,C4,l,hc,_=>by
  simp only[EC,En.injEq,Prod.mk.injEq]at hc
  rw[←hc.1];exact .nil
 |o::os,i,rs,C4,l,hc,hos=>by
  simp only[EC]at hc
  split at hc
  ·rename_i g hg
   split at hc
   ·rename_i b8
    split at hc
    ·rename_i l1 rs1 FI
     simp only[En.injEq,Prod.mk.injEq]at hc
     rw[←hc.1]
     simp only[E1]at b8
     obtain⟨⟨hf1,hf2⟩,hf3⟩:=b8
     refine .cons (o:=o) (by rw[←Nat.add_zero i,←hos 0];rfl) ⟨⟨h,jcx h id i,rs.length,rfl⟩,hg,rfl,fun d hd=>?_,fun d hd=>?_,fun d hd=>?_⟩ ?_
     ·rw[hd]at hf1
      simpa using hf1
     ·simp only at hd
      rw[hd]at hf2
      simpa using hf2
     ·simp only at hd
      rw[hd]at hf3
      simpa using hf3
     ·exact q0b FI (fun j=>by rw[show i+1+j=i+(j+1)from by omega,←hos (j+1)];rfl)
    ·cases hc
   ·cases hc
  ·cases hc
theorem av.holes {ω:Nat→Option Loc}{w:World}{hp:j8}(m:av P C ω w0 C0 hp w)(n:Nat):av P C ω w0 C0 (hp++S2 n .hole) w:=
 { m with
  lt:=fun b r hb=>⟨(m.lt b r hb).1,by rw[List.length_append];have:=(m.lt b r hb).2;omega⟩
  box:=fun b x r hx hb=>m.box b x r (by rw[List.getElem?_append_left (m.lt b r hb).2]at hx;exact hx) hb }
theorem q4f {l:List Nat}{e:Env}{s:Nat}{x:qa×Bool}:yd s (pq e l)=En x→yd s e=En x:=by
 induction l with
 |nil=>simp[pq,yd]
 |cons t l ih=>
  intro h
  simp only[pq]at h
  split at h
  ·rename_i y hy
   by_cases bS:s=t
   ·subst bS;rw[Dp]at h;rw[hy];exact h
   ·rw[MD bS]at h;exact ih h
  ·exact ih h
theorem cX.keep {st:qg}{a:Act}{w:World}{k:Option (List Nat)}(h:cX P w0 C0 C nt st a w):cX P w0 C0 C nt (yL st k) a w:=by
 cases k with
 |none=>exact h
 |some l=>
  obtain⟨h1,C',ω',h3,h2,h4,h5⟩:=h
  exact⟨h1,C',ω',h3,h2,h4,fun s x hx=>h5 s x (q4f hx)⟩
theorem qua {listed:Array Bool}{i j:Nat}{d:Bool}:(listed.setIfInBounds i E3).getD j d=if i=j∧j<listed.size then E3 else listed.getD j d:=by
 simp only[Gm,Array.getElem?_setIfInBounds]
 by_cases oK:i=j
 ·subst oK
  by_cases hl:i<listed.size
  ·simp[hl]
  ·simp[hl]
 ·simp[oK]
theorem iO.FJ {a b:qg}(h:iO a b):iO b a:=⟨h.1.symm,fun s=>(h.2 s).symm⟩
def pick (full:List qv)(l:List Nat):List qv:=l.map fun i=>full.getD i default
theorem jo.get {l:List Nat}{lo:List qv}(h:jo P nt ops l lo):l.length=lo.length∧∀k i,l[k]?=En i→∃o,ops[i]?=En o∧js P nt ops o (lo.getD k default):=by
 induction h with
 |nil=>exact⟨rfl,by simp⟩
 |cons hi h t ih=>
  refine⟨by simp[ih.1],fun k i hk=>?_⟩
  cases k with
  |zero=>simp at hk;subst hk;exact⟨_,hi,h⟩
  |succ k=>simp at hk;obtain⟨o,h1,h2⟩:=ih.2 k i hk;exact⟨o,h1,by simpa using h2⟩
theorem jtp {full:List qv}{gU:Array Nat}(ec:qx P p)(hx:b9 P xc){Q:Exit→Act→World→Prop}{bJ:qg}(hQ:∀a' w',cX P w0 C0 C nt bJ a' w'→Q .normal a' w')
  (qC:∀i o,ops[i]?=En o→js P nt ops o (full.getD i default)) (FK:∀i j,i<j→j<ops.size→(gU.getD j 0).testBit i=E6→yP (full.getD i default) (full.getD j default)=E3)
  (TA:∀j o i,ops[j]?=En o→i<ops.size→(gU.getD j 0).testBit i=E3→∃e∈o.after,Region.binds .any e=E3∧(e.on=i∨(gU.getD e.on 0).testBit i=E3))
  (FL:∀i o,ops[i]?=En o→∀e∈o.after,Region.binds .any e=E3→e.on<i):
  ∀(fuel:Nat) (listed:Array Bool) (l:List Nat) (st s2:qg) (a:Act) (w:World),listed.size=ops.size→l.Pairwise (· < ·)→(∀i,i∈l↔i<ops.size∧listed.getD i E3=E6)→l.length≤fuel →
   (∀k i,i<ops.size→listed.getD k E6=E3→(gU.getD k 0).testBit i=E3→listed.getD i E6=E3)→fD p xc h0 (pick full l) st=En s2→iO s2 bJ→cX P w0 C0 C nt st a w→wpAnyIn (iD ρ) 0 P .any ops Q fuel listed a w:=by
 intro fuel
 induction fuel with
 |zero=>
  intro listed l st s2 a w cD fI cR hlen jT hs heq bS
  have hl:l=[]:=List.length_eq_zero_iff.1 (by omega)
  subst hl
  simp only[pick,Ta,fD,En.injEq]at hs
  subst hs
  refine⟨?_,hQ _ _ (bS.eqv heq)⟩
  cases hr:Region.ready .any ops listed with
  |nil=>rfl
  |cons i rs=>
   have hi:i∈Region.ready .any ops listed:=by rw[hr];simp
   obtain⟨h1,o,ho,_⟩:=mem_ready.1 hi
   have:=(cR i).2 ⟨(Mz.1 ho).1,h1⟩
   cases this
 |succ fuel ih=>
  intro listed l st s2 a w cD fI cR hlen jT hs heq bS
  refine⟨fun hr=>?_,fun i hi=>?_⟩
  ·cases l with
   |nil=>
    simp only[pick,Ta,fD,En.injEq]at hs
    subst hs
    exact hQ _ _ (bS.eqv heq)
   |cons i l=>
    exfalso
    obtain⟨h1,h2⟩:=(cR i).1 (by simp)
    have hi:i∈Region.ready .any ops listed:=by
     refine mem_ready.2 ⟨h2,ops[i],H7 h1,fun e he hb=>?_⟩
     have aX:=FL i _ (H7 h1) e he hb
     have bw:e.on ∉ i::l:=fun hm=>by
      rcases S8.1 hm with h|h
      ·omega
      ·have:=(Sp.1 fI).1 _ h;omega
     have h3:¬(listed.getD e.on E3=E6):=fun h=>bw ((cR e.on).2 ⟨by omega,h⟩)
     have qD:e.on<listed.size:=by omega
     simp only[Gm,H7 qD,Mm]at h3 ⊢
     simpa using h3
    rw[hr]at hi
    cases hi
  ·obtain⟨h1,o,ho,hall⟩:=mem_ready.1 hi
   have aX:=(Mz.1 ho).1
   have him:i∈l:=(cR i).2 ⟨aX,h1⟩
   obtain⟨l1,l2,rfl⟩:=List.append_of_mem him
   have TB:∀k,k∈l1++i::l2→listed.getD k E6=E3→False:=fun k hk hl=>by
    obtain⟨k1,k2⟩:=(cR k).1 hk
    have qD:k<listed.size:=by omega
    simp only[Gm,H7 qD,Mm]at hl k2
    rw[hl]at k2;cases k2
   have hbi:∀k,k<ops.size→(gU.getD i 0).testBit k=E3→listed.getD k E6=E3:=fun k hk hb=>by
    obtain⟨e,he,kH,h2|h2⟩:=TA i o k ho hk hb
    ·rw[←h2];exact hall e he kH
    ·exact jT e.on k hk (hall e he kH) h2
   have hm:∀b∈pick full l1,yP b (full.getD i default)=E3:=by
    intro b hb
    obtain⟨k,hk,rfl⟩:=List.mem_map.1 hb
    have zU:k<i:=(Sk.1 fI).2.2 k hk i (by simp)
    refine FK k i zU aX ?_
    cases TC:(gU.getD i 0).testBit k with
    |false=>rfl
    |true=>exact(TB k (by simp[hk]) (hbi k (by omega) TC)).elim
   have TD:pick full (l1++i::l2)=pick full l1++full.getD i default::pick full l2:=by simp[pick]
   rw[TD]at hs
   obtain⟨t1,t2,g1,g2,g3⟩:=qyb hm hs
   refine q6j ec hx ho (qC i o ho) g1 bS fun a' w' gN=>?_
   refine ih (listed.setIfInBounds i E3) (l1++l2) t1 t2 a' w' (by simpa using cD) ?_ ?_ ?_ ?_ (by rw[show pick full (l1++l2)=pick full l1++pick full l2 from by simp[pick]];exact g2) (iO.trans (iO.FJ g3) heq) gN
   ·exact fI.sublist (Tb.append (Tb.refl _) (List.sublist_cons_self _ _))
   ·intro k
    rw[qua]
    have FM:i ∉ l1∧i ∉ l2:=by
     have h:=Sk.1 fI
     refine⟨fun hi1=>?_,fun hi2=>?_⟩
     ·have:=h.2.2 i hi1 i (by simp);omega
     ·have:=(Sp.1 h.2.1).1 i hi2;omega
    constructor
    ·intro hk
     have zU:k≠i:=fun h=>by
      subst h
      rcases R6.1 hk with h|h
      ·exact FM.1 h
      ·exact FM.2 h
     have:=(cR k).1 (by rcases R6.1 hk with h|h<;>simp[h])
     rw[if_neg (by omega)]
     exact this
    ·rintro ⟨k1,k2⟩
     split at k2
     ·cases k2
     ·rename_i bw
      have zU:k≠i:=fun h=>bw ⟨h.symm,by omega⟩
      have:=(cR k).2 ⟨k1,k2⟩
      rcases R6.1 this with h|h
      ·simp[h]
      ·rcases S8.1 h with h|h
       ·exact absurd h zU
       ·simp[h]
   ·simp at hlen ⊢;omega
   ·intro k j hj hk hb
    rw[qua]at hk ⊢
    split
    ·rfl
    ·split at hk
     ·rename_i TE
      rw[←TE.1]at hb
      exact hbi j hj hb
     ·exact jT k j hj hk hb
theorem q58 {gU:Array Nat}{l:List qv}(h:RZ gU l=E3){i j:Nat}(oK:i<j)(hj:j<l.length)(hb:(gU.getD j 0).testBit i=E6):yP (l.getD i default) (l.getD j default)=E3:=by
 unfold RZ at h
 rw[Md]at h
 have h1:=h (l[j],j) (G2.2 (by simp[hj]))
 simp only[]at h1
 rw[Md]at h1
 have h2:=h1 (l[i]'(by omega),i) (G2.2 (by simp))
 simp only[oK,hb,decide_true,Sn,N1]at h2
 simp only[List.getD_eq_getElem?_getD,Nh hj,Nh (show i<l.length by omega),Mm]
 exact h2
theorem q7y {gU:Array Nat}(h:R1 gU ops=E3){j i:Nat}{o:Oper}(ho:ops[j]?=En o)(hi:i<ops.size)(hb:(gU.getD j 0).testBit i=E3):∃e∈o.after,Region.binds .any e=E3∧(e.on=i∨(gU.getD e.on 0).testBit i=E3):=by
 unfold R1 at h
 rw[Md]at h
 have h1:=h (o,j) (G2.2 (by simpa using ho))
 simp only[]at h1
 rw[Md]at h1
 have h2:=h1 i (S7.2 hi)
 rw[hb]at h2
 simp only[Sn,N1,Array.any_eq_true']at h2
 obtain⟨e,he,h3⟩:=h2
 simp only[E1,S1,beq_iff_eq]at h3
 exact⟨e,he,h3.1,h3.2⟩
theorem q27 (h:R0 ops=E3){i:Nat}{o:Oper}(ho:ops[i]?=En o):∀e∈o.after,Region.binds .any e=E3→e.on<i:=by
 intro e he hb
 unfold R0 at h
 rw[Md]at h
 have h1:=h (o,i) (G2.2 (by simpa using ho))
 simp only[Array.all_eq_true']at h1
 have:=h1 e he
 simpa[hb]using this
theorem jc5 (ec:qx P p)(hx:b9 P xc){id:Nat}{draw:Bool}{ca:qf}{h:qb}{na:Nat}{l:List qv}{keep:Option (List Nat)}(hc:EE P h nt id ops draw=En ca)(dG:ca=.region na l keep){st bJ:qg}{x:qo}(hs:l8 p xc na l keep st=En (x,bJ)){ω:Nat→Option Loc}{a:Act}{w:World}
  (m:av P C ω w0 C0 st.heap w) (he:aj C ω w w0.heap.size st.env a.tmps) (cD:a.tmps.size=nt) (jR:Marks C w0.heap.size a.defers):
  (Code.region id ops draw).wpIn (iD ρ) 0 P (fun e a' w'=>e=zH x∧cX P w0 C0 C nt bJ a' w') a w:=by
 subst dG
 unfold EE at hc
 split at hc
 ·rename_i l' rs hl
  split at hc
  ·rename_i hd
   simp only[En.injEq,qf.region.injEq]at hc
   obtain⟨rfl,rfl,ny⟩:=hc
   unfold l8 at hs
   split at hs
   ·rename_i s1 h1
    cases hs
    have wV:jo P nt ops (List.range' 0 ops.size) l':=by
     have:=q0b hl (ops:=ops) (fun j=>by simp)
     simpa using this
    have hQ:∀a' w',cX P w0 C0 C nt s1 a' w'→(fun e a' w'=>e=zH .normal∧cX P w0 C0 C nt (yL s1 keep) a' w') Exit.normal a' w':=fun a' w' bS=>⟨rfl,bS.keep⟩
    cases draw with
    |false=>
     refine wpIn_region ?_
     rw[List.range_eq_range']
     exact q6q ec hx hQ wV h1 ⟨cD,C,ω,ay.le_refl C,jR,m.holes _,he⟩
    |true=>
     simp only[Sn,N1,E1]at hd
     obtain⟨⟨d1,d2⟩,d3⟩:=hd
     refine wpIn_region_any ec.mixed ?_
     obtain⟨hlen,TF⟩:=wV.get
     have hlen':l'.length=ops.size:=by rw[←hlen];simp
     have qC:∀i o,ops[i]?=En o→js P nt ops o (l'.getD i default):=by
      intro i o ho
      have hi:=(Mz.1 ho).1
      obtain⟨o',h2,h3⟩:=TF i i (by rw[List.getElem?_range' hi];simp)
      rw[ho]at h2;cases h2;exact h3
     have TD:pick l' (List.range ops.size)=l':=by
      apply N3
      intro k
      simp only[pick,List.getElem?_map]
      by_cases hk:k<ops.size
      ·rw[List.getElem?_range hk]
       simp[Nh (show k<l'.length by omega)]
      ·rw[Sd (by simpa using hk),Sd (by omega)];rfl
     refine jtp (gU:=Region.before ops) (full:=l') ec hx hQ qC (fun i j h2 h3 h4=>q58 d1 h2 (by omega) h4) (fun j o i h2 h3 h4=>q7y d3 h2 h3 h4) (fun i o h2=>q27 d2 h2) ops.size _ (List.range ops.size) ⟨st.env,st.heap++S2 rs.length .hole⟩ s1 a _ (by simp) List.pairwise_lt_range ?_ (by simp) ?_ (by rw[TD];exact h1) (iO.refl _) ⟨cD,C,ω,ay.le_refl C,jR,(m.holes _).ext (Ext.drew w),he.ext (Ext.drew w)⟩
     ·intro i
      simp only[S7,Gm,N4]
      constructor
      ·intro hi;exact⟨hi,by simp[hi]⟩
      ·exact fun hi=>hi.1
     ·intro k i hi hk
      simp only[Gm,N4]at hk
      split at hk<;>simp at hk
   ·cases hs
  ·cases hc
 ·cases hc
end
end Go.Abs
