/- Two operations that may be exchanged. -/
import Derived.Test.YtfopaakmgogpiaaGreatDoorAbsE
import Derived.OrdersIn
set_option linter.unusedVariables false
set_option linter.unusedSimpArgs false
open List renaming getElem?_set_ne→I,getElem?_eq_some_iff→Eo,set_comm→Gc,mem_zipIdx_iff_getElem?→Gk,getElem?_set_self→Gl,all_eq_true→Gr,length_set→Gx,getElem?_eq_getElem→G2,ext_getElem?→Hm,mem_append→Ho,mem_append_right→Hq,getElem?_eq_none→Hr,mem_append_left→Ht,pairwise_append→Hu,pairwise_cons→Hw,getElem?_set→If,cons_append→N3,replicate→Oh,mem_range→Ou,mem_cons→Ov,map_nil→O9,Sublist→St
open Option renaming some→Ek,getD_some→Gv,map_eq_some_iff→Gw,bind_some→N5,getD_none→N7
open Bool renaming and_eq_true→En,true→Ep,false→Ga,cond_eq_ite→Gi,false_or→G5,not_true→Hv,or_eq_true→Od
open Nat renaming eq_of_beq_eq_true→Eu,blt_eq→Gb,blt→Gf,beq→Gn,ble→G3,le_of_ble_eq_true→G6,beq_refl→Hx
open Array renaming getD_eq_getD_getElem?→Ge,getElem?_eq_getElem→Gm,getElem?_eq_some_iff→Gy,getElem?_replicate→Hn
open Ne renaming symm→Gh
namespace Go.Abs
section
variable {p:qr}{xc:XC}{h0:Nat}{al:Option (List Nat)}
def Agree (l:List Nat)(e e':Env):Prop:=∀s∈l,yd s e=yd s e'
theorem Agree.app {l l' e e'}(h:Agree (l++l') e e'):Agree l e e'∧Agree l' e e':=
 ⟨fun s hs=>h s (Ht _ hs),fun s hs=>h s (Hq _ hs)⟩
theorem zo {e e' x}(h:Agree (y6 x) e e'):zc e x=zc e' x:=by
 cases x with
 |tmp t=>simp only[zc,h t (by simp[y6])]
 |const v=>rfl
theorem Ew {e e'}:∀ {l:List qp},Agree (xu l) e e'→fF e l=fF e' l
 | [],_=>rfl
 |x::l,h=>by
  have h':Agree (y6 x++xu l) e e':=by simpa[xu]using h
  simp only[fF,zo h'.app.1,Ew h'.app.2]
theorem Ey {e e' x}(d n:Nat)(h:Agree (Ab x) e e'):eY e d n x=eY e' d n x:=by
 cases x with
 |none=>rfl
 |some x=>simp only[eY,zo (x:=x) h]
theorem UX {e e' x}(h:Agree (y6 x) e e'):kn e x=kn e' x:=by
 cases x with
 |tmp t=>simp only[kn,h t (by simp[y6])]
 |const v=>rfl
theorem qmq {e e'}:∀ {l:List (Nat×Nat×qp)},Agree (l.flatMap fun p=>y6 p.2.2) e e'→ln e l=ln e' l
 | [],_=>rfl
 |(i,n,x)::l,h=>by
  have h':Agree (y6 x++l.flatMap fun p=>y6 p.2.2) e e':=by simpa using h
  simp only[ln,zo h'.app.1,qmq h'.app.2]
theorem UY {e e' sz}:∀ {l:List (Nat×qp)},Agree (l.flatMap fun p=>y6 p.2) e e'→iG e sz l=iG e' sz l
 | [],_=>rfl
 |(i,x)::l,h=>by
  have h':Agree (y6 x++l.flatMap fun p=>y6 p.2) e e':=by simpa using h
  simp only[iG,zo h'.app.1,UY h'.app.2]
theorem q3v {e e' h op}(ha:Agree op.reads e e'):j8 p xc h0 al e h op=j8 p xc h0 al e' h op:=by
 cases op with
 |move x=>simp only[j8,zh,zo (x:=x) ha]
 |take s=>simp only[j8,zh,ha s (by simp[qv.reads])]
 |pick c x y=>simp only[qv.reads]at ha;simp only[j8,zh,zo ha.app.1.app.1,zo ha.app.1.app.2,zo ha.app.2]
 |build z ps=>simp only[j8,zh,qmq (l:=ps) ha]
 |buildSlice sz n z ps=>simp only[j8,zh,UY (l:=ps) ha]
 |nilCheck x=>simp only[j8,zh,zo (x:=x) ha]
 |fV n=>rfl
 |du n s x=>
  simp only[qv.reads]at ha
  have h1:yd s e=yd s e':=ha s (by simp)
  have h2:Agree (y6 x) e e':=fun t ht=>ha t (by simp[ht])
  simp only[j8,zh,h1,zo h2]
 |ol n x=>simp only[j8,zh,zo (x:=x) ha]
 |eU ag n x=>simp only[j8,zh,zo (x:=x) ha]
 |bin op x y=>simp only[qv.reads]at ha;simp only[j8,zh,zo ha.app.1,zo ha.app.2]
 |eqs ks n x y=>simp only[qv.reads]at ha;simp only[j8,zh,zo ha.app.1,zo ha.app.2]
 |beq n x y=>simp only[qv.reads]at ha;simp only[j8,zh,zo ha.app.1,zo ha.app.2]
 |eV k n x=>simp only[j8,zh,zo (x:=x) ha]
 |un op x=>simp only[j8,zh,zo (x:=x) ha]
 |conv k x=>simp only[j8,zh,zo (x:=x) ha]
 |eI x=>simp only[j8,zh,zo (x:=x) ha]
 |field ag off n x=>simp only[j8,zh,zo (x:=x) ha]
 |index ag l n x i=>simp only[qv.reads]at ha;simp only[j8,zh,zo ha.app.1,zo ha.app.2]
 |dN x i=>simp only[qv.reads]at ha;simp only[j8,zh,zo ha.app.1,zo ha.app.2]
 |fieldAddr ag off n x=>simp only[j8,zh,zo (x:=x) ha]
 |indexAddr sz x i=>simp only[qv.reads]at ha;simp only[j8,zh,zo ha.app.1,zo ha.app.2]
 |dO ag l sz x i=>simp only[qv.reads]at ha;simp only[j8,zh,zo ha.app.1,zo ha.app.2]
 |slice sz x lo hi=>simp only[qv.reads]at ha;simp only[j8,zh,zo ha.app.1.app.1,Ey _ _ ha.app.1.app.2,Ey _ _ ha.app.2]
 |ek x lo hi=>simp only[qv.reads]at ha;simp only[j8,zh,zo ha.app.1.app.1,Ey _ _ ha.app.1.app.2,Ey _ _ ha.app.2]
 |en l sz x lo hi=>simp only[qv.reads]at ha;simp only[j8,zh,zo ha.app.1.app.1,Ey _ _ ha.app.1.app.2,Ey _ _ ha.app.2]
 |fW f x y=>simp only[qv.reads]at ha;simp only[j8,zh,Ew ha.app.1,Ew ha.app.2]
 |len k x=>simp only[j8,zh,zo (x:=x) ha]
 |append r sz b x y=>
  simp only[qv.reads]at ha
  cases r with
  |none=>simp only[j8,zh,zo ha.app.1,zo ha.app.2,UX ha.app.1]
  |some r=>simp only[j8,zi,zo ha.app.1,zo ha.app.2,UX ha.app.1]
 |gG r sz b x y=>simp only[qv.reads]at ha;simp only[j8,zi,zo ha.app.1,zo ha.app.2]
 |ia r sz n z ps=>simp only[j8,zi,UY (l:=ps) ha]
 |bV r sz b z n c=>
  simp only[qv.reads]at ha
  cases r with
  |none=>simp only[j8,zh,zo ha.app.1,zo ha.app.2]
  |some r=>simp only[j8,zi,zo ha.app.1,zo ha.app.2]
 |mx l=>simp only[j8,zh,Ew (l:=l) ha]
 |mn l=>simp only[j8,zh,Ew (l:=l) ha]
 |extract x i=>simp only[j8,zh,zo (x:=x) ha]
 |load ag n x=>simp only[j8,gU,zo (x:=x) ha]
 |alloc r z=>rfl
 |fE r t e=>rfl
 |box r n x=>simp only[j8,zi,zo (x:=x) ha]
 |b9 off x=>simp only[j8,zi,zo (x:=x) ha]
 |store n x y=>simp only[qv.reads]at ha;simp only[j8,zi,zo ha.app.1,zo ha.app.2,UX ha.app.2]
 |dD r=>rfl
 |cZ r x=>simp only[j8,zi,zo (x:=x) ha]
 |call md f l=>simp only[qv.reads]at ha;simp only[j8,iI,zo ha.app.1,Ew ha.app.2]
 |lookup kd z ok x y=>simp only[qv.reads]at ha;simp only[j8,gU,zo ha.app.1,zo ha.app.2]
 |mapUpdate kd x y z=>simp only[qv.reads]at ha;simp only[j8,zi,zo ha.app.1.app.1,zo ha.app.1.app.2,zo ha.app.2]
 |delete kd x y=>simp only[qv.reads]at ha;simp only[j8,zi,zo ha.app.1,zo ha.app.2]
 |copy sz x y=>simp only[qv.reads]at ha;simp only[j8,zi,zo ha.app.1,zo ha.app.2]
 |eW x=>simp only[j8,zi,zo (x:=x) ha]
 |bad=>rfl
def qo.at (r:qo)(h:za):qo:={ r with heap:=h }
theorem mb {h h' x r}(hs:val h x=Ek r):r.heap=h∧val h' x=Ek (r.at h'):=by
 simp only[val,Ek.injEq]at hs;subst hs;exact⟨rfl,rfl⟩
theorem jfv (h:za)(x:Option qa):fX h x=(fX [] x).map (·.at h):=by cases x<;>rfl
theorem UZ {α β:Type}(c:Bool)(x y:Option α)(f:α→β):(bif c then x else y).map f=bif c then x.map f else y.map f:=by cases c<;>rfl
theorem qsc (e:Env)(h:za)(op:qv):zh e h op=(zh e [] op).map (·.at h):=by
 cases op with
 |append r sz b x y=>
  cases r with
  |some r=>rfl
  |none=>
   simp only[zh]
   repeat' split
   all_goals first
    |rfl
    |(simp only[UZ];repeat' split)<;>rfl
 |bV r sz b z n c=>
  cases r with
  |some r=>rfl
  |none=>
   simp only[zh]
   repeat' split
   all_goals first
    |rfl
    |(simp only[UZ];rfl)
 |_=>
  simp only[zh]
  repeat' split
  all_goals first
   |rfl
   |exact jfv _ _
   |(simp only[UZ];first|rfl|(repeat' split)<;>rfl)
theorem qu4 {e h}(h':za){op r}(hs:zh e h op=Ek r):r.heap=h∧zh e h' op=Ek (r.at h'):=by
 rw[qsc]at hs
 obtain⟨r0,h1,rfl⟩:=Gw.1 hs
 refine⟨rfl,?_⟩
 rw[qsc,h1]
 rfl
end
section
variable {p:qr}{xc:XC}{h0:Nat}{al:Option (List Nat)}
def nV:Option qn→Bool
 |some (.vec ..)=>Ga
 |some .hole=>Ga
 |_=>Ep
theorem G7 {h b cs}(hc:ym h b=Ek cs):nV h[b]?=Ep:=by
 unfold ym at hc
 split at hc
 ·rename_i h1;rw[h1];rfl
 ·cases hc
theorem Ez {h b x}(hb:kc h b=Ek x)(hx:nV (Ek x)=Ep):nV h[b]?=Ep:=by
 unfold kc at hb;rw[hb];exact hx
def U0:qn→Option Nat
 | .vec sz _ _=>Ek sz
 |_=>none
def HB (h0:Nat)(al:Option (List Nat))(F:za→Option qo)(h:za)(r:qo):jr→Nat→Prop
 | .pure,_=>r.heap=h∧∀h',F h'=Ek (r.at h')
 | .read,_=>r.heap=h∧∀h':za,(∀b,yv h0 al b=Ep→(pj al=Ep→nV h[b]?=Ep)→h'[b]?=h[b]?)→F h'=Ek (r.at h')
 | .alloc,k=>∃x,aF h0 h k x=Ek r.heap∧∀h' h3,aF h0 h' k x=Ek h3→F h'=Ek (r.at h3)
 | .write,_=>∃b x,yv h0 al b=Ep∧nV h[b]?=Ep∧nV (Ek x)=Ep∧yh h b x=Ek r.heap∧∀h' h3:za,h'[b]?=h[b]?→yh h' b x=Ek h3→F h'=Ek (r.at h3)
 | .take,k=>∃b cs v o,yv h0 al b=Ep∧h[b]?=Ek (.cells cs)∧cs[k]?=Ek (v,o)∧r.heap=h.set b (.cells (cs.set k (v,Ga))) ∧
   ∀(h':za) (dV:List (qa×Bool)),h'[b]?=Ek (.cells dV)→dV[k]?=Ek (v,o)→F h'=Ek (r.at (h'.set b (.cells (dV.set k (v,Ga)))))
 | .fg,_=>False
 | .shr,_=>True
 | .nK,k=>∃q x y,(q=h0+k % 1000∧y=.hole∨U0 y=Ek (k / 1000))∧h[q]?=Ek y∧r.heap=h.set q x∧U0 x=Ek (k / 1000)∧∀h':za,h'[q]?=Ek y→F h'=Ek (r.at (h'.set q x))
theorem G8 {h h' b}(hb:h'[b]?=h[b]?):ym h' b=ym h b:=by simp only[ym,hb]
theorem jd8 {e h op r}(hs:j8 p xc h0 al e h op=Ek r):HB h0 al (fun h=>j8 p xc h0 al e h op) h r op.cl op.cz:=by
 have fL:(∀h,j8 p xc h0 al e h op=zh e h op)→op.cl=.pure→HB h0 al (fun h=>j8 p xc h0 al e h op) h r op.cl op.cz:=by
  intro heq dr
  rw[dr]
  rw[heq]at hs
  exact⟨(qu4 h hs).1,fun h'=>(heq h').trans (qu4 h' hs).2⟩
 cases op with
 |load ag n x=>
  simp only[j8,gU]at hs
  split at hs
  ·rename_i b o hv
   cases hk:yv h0 al b with
   |false=>simp[hk]at hs
   |true=>
    simp only[hk,cT]at hs
    split at hs
    ·rename_i cs hcs
     split at hs
     ·rename_i vs NW
      have key:r.heap=h∧∀h':za,ym h' b=ym h b→gU h0 al e h' (.load ag n x)=Ek (r.at h'):=by
       cases ag with
       |true=>
        simp only[cT]at hs
        refine⟨(mb (h':=h) hs).1,fun h' hb=>?_⟩
        simp only[gU,hv,hk,cT,hb,hcs,NW]
        exact(mb (h':=h') hs).2
       |false=>
        simp only[cond_false]at hs
        split at hs
        ·refine⟨(mb (h':=h) hs).1,fun h' hb=>?_⟩
         simp only[gU,hv,hk,cT,hb,hcs,NW,cond_false]
         exact(mb (h':=h') hs).2
        ·cases hs
      exact⟨key.1,fun h' cK=>key.2 h' (G8 (cK b hk fun _=>G7 hcs))⟩
     ·cases hs
    ·cases hs
  ·rename_i v hv
   cases hk:(Bool.xor ag v.isAgg||!(Gn v.flat.length n))with
   |true=>simp[hk]at hs
   |false=>
    simp only[hk,cond_false]at hs
    refine⟨(mb (h':=h) hs).1,fun h' _=>?_⟩
    simp only[j8,gU,hv,hk,cond_false]
    exact(mb (h':=h') hs).2
  ·rename_i b bz q hv
   cases hk:uE h0 al b with
   |false=>simp[hk]at hs
   |true=>
    simp only[hk,cT]at hs
    have gO:=hk
    simp only[uE,En,Bool.not_eq_true']at gO
    split at hs
    ·rename_i sz de xs gd
     have jB:∀h':za,(∀b,yv h0 al b=Ep→(pj al=Ep→nV h[b]?=Ep)→h'[b]?=h[b]?)→kc h' b=Ek (.vec sz de xs):=fun h' cK=>by
      unfold kc at gd ⊢;rw[cK b gO.1 (fun ho=>by rw[gO.2]at ho;cases ho),gd]
     cases cV:(Gn bz de&&G3 (q+n) (xs.flatMap qa.flat).length)with
     |false=>rw[cV]at hs;cases hs
     |true=>
      rw[cV]at hs
      simp only[cT]at hs
      cases ag with
      |true=>
       simp only[cT]at hs
       refine⟨(mb (h':=h) hs).1,fun h' cK=>?_⟩
       simp only[j8,gU,hv,hk,cT,jB h' cK,cV]
       exact(mb (h':=h') hs).2
      |false=>
       simp only[cond_false]at hs
       split at hs
       ·rename_i z hz
        refine⟨(mb (h':=h) hs).1,fun h' cK=>?_⟩
        simp only[j8,gU,hv,hk,cT,jB h' cK,cV,cond_false,hz]
        exact(mb (h':=h') hs).2
       ·cases hs
    ·cases hs
  ·cases hs
 |len k x=>exact fL (fun _=>rfl) rfl
 |alloc rk z=>
  simp only[j8,zi]at hs
  cases hk:z.all zd with
  |false=>simp[hk]at hs
  |true=>
   simp only[hk,cT]at hs
   split at hs
   ·rename_i h' hn
    have h1:=zt hs
    refine⟨_,by rw[h1];exact hn,fun g g3 hg=>?_⟩
    simp only[j8,zi,hk,cT]
    rw[show qv.cz (.alloc rk z)=rk from rfl]at hg
    rw[hg,h1];rfl
   ·cases hs
 |box rk n x=>
  simp only[j8,zi]at hs
  split at hs
  ·rename_i v hv
   cases hk:(Gn v.flat.length n&&v.flat.all zd)with
   |false=>simp[hk]at hs
   |true=>
    simp only[hk,cT]at hs
    split at hs
    ·rename_i h' hn
     have h1:=zt hs
     refine⟨_,by rw[h1];exact hn,fun g g3 hg=>?_⟩
     simp only[j8,zi,hv,hk,cT]
     rw[show qv.cz (.box rk n x)=rk from rfl]at hg
     rw[hg,h1];rfl
    ·cases hs
  ·cases hs
 |fE rk t e'=>
  simp only[j8,zi]at hs
  split at hs
  ·rename_i h' hn
   have h1:=zt hs
   refine⟨_,by rw[h1];exact hn,fun g g3 hg=>?_⟩
   simp only[j8,zi]
   rw[show qv.cz (.fE rk t e')=rk from rfl]at hg
   rw[hg,h1];rfl
  ·cases hs
 |dD rk=>
  simp only[j8,zi]at hs
  split at hs
  ·rename_i h' hn
   have h1:=zt hs
   refine⟨_,by rw[h1];exact hn,fun g g3 hg=>?_⟩
   simp only[j8,zi]
   rw[show qv.cz (.dD rk)=rk from rfl]at hg
   rw[hg,h1];rfl
  ·cases hs
 |cZ rk x=>
  simp only[j8,zi]at hs
  split at hs
  ·rename_i s hv
   split at hs
   ·rename_i h' hn
    have h1:=zt hs
    refine⟨_,by rw[h1];exact hn,fun g g3 hg=>?_⟩
    simp only[j8,zi,hv]
    rw[show qv.cz (.cZ rk x)=rk from rfl]at hg
    rw[hg,h1];rfl
   ·cases hs
  ·cases hs
 |b9 off x=>
  simp only[j8,zi]at hs
  split at hs
  ·rename_i b o hv
   cases hk:yv h0 al b&&uF off o with
   |false=>simp[hk]at hs
   |true=>
    simp only[hk,cT]at hs
    have ez:yv h0 al b=Ep:=by simp only[En]at hk;exact hk.1
    split at hs
    ·rename_i cs hcs
     split at hs
     ·rename_i v ow hq
      split at hs
      ·rename_i h' bn
       cases hs
       have nW:=bn
       unfold yh at nW
       cases bh:Gf b h.length with
       |false=>simp[bh]at nW
       |true=>
        simp only[bh,cT,Ek.injEq]at nW
        cases off with
        |none=>
         refine⟨b,_,ez,G7 hcs,rfl,bn,fun g g3 hb hg=>?_⟩
         simp only[j8,zi,hv,hk,cT,G8 hb,hcs,hq,hg]
         rfl
        |some k=>
         have hko:k=o:=by
          simp only[En,uF]at hk;exact Eu hk.2
         subst hko
         have hhb:h[b]?=Ek (.cells cs):=by
          unfold ym at hcs
          split at hcs
          ·rename_i dV h';cases hcs;exact h'
          ·cases hcs
         refine⟨b,cs,v,ow,ez,hhb,hq,nW.symm,fun g dV hg dA=>?_⟩
         have dA:dV[k]?=Ek (v,ow):=dA
         have hlg:b<g.length:=(Eo.1 hg).1
         have lg:ym g b=Ek dV:=by simp only[ym,hg]
         have hsg:yh g b (.cells (dV.set k (v,Ga)))=Ek (g.set b (.cells (dV.set k (v,Ga)))):=by
          unfold yh;rw[Gb.mpr hlg];rfl
         simp only[j8,zi,hv,hk,cT,lg,dA,hsg]
         rfl
      ·cases hs
     ·cases hs
    ·cases hs
  ·cases hs
 |store n x y=>
  simp only[j8,zi]at hs
  split at hs
  ·rename_i b o v hv hy
   cases hk:yv h0 al b with
   |false=>simp[hk]at hs
   |true=>
    simp only[hk,cT]at hs
    split at hs
    ·rename_i cs hcs
     split at hs
     ·rename_i t ht
      cases cV:(Gn n 1&&v.ct&&Gf o cs.length)with
      |false=>simp[cV]at hs
      |true=>
       simp only[cV,cT]at hs
       split at hs
       ·rename_i h' bn
        cases hs
        refine⟨b,_,hk,G7 hcs,rfl,bn,fun g g3 hb hg=>?_⟩
        simp only[j8,zi,hv,hy,hk,cT,G8 hb,hcs,ht,cV,hg]
        rfl
       ·cases hs
     ·rename_i ht
      cases cV:Gn v.flat.length n with
      |false=>simp[cV]at hs
      |true=>
       simp only[cV,cT]at hs
       split at hs
       ·rename_i dV bO
        split at hs
        ·rename_i h' bn
         have h1:=zt hs
         refine⟨b,_,hk,G7 hcs,rfl,by rw[h1];exact bn,fun g g3 hb hg=>?_⟩
         simp only[j8,zi,hv,hy,hk,cT,G8 hb,hcs,ht,cV,bO,hg,h1]
         rfl
        ·cases hs
       ·cases hs
    ·cases hs
  ·cases hs
 |call md f l=>
  cases md with
  |shr=>trivial
  |red=>trivial
  |fg rk=>
   simp only[j8,iI]at hs
   split at hs
   ·rename_i k first captured vs e1 e2
    cases hb:(first++vs++captured).isEmpty with
    |false=>
     rw[hb]at hs
     simp only[cond_false]at hs
     cases lH:zr 0 (first++vs++captured)with
     |false=>rw[lH]at hs;cases hs
     |true=>
      rw[lH]at hs
      simp only[cT]at hs
      split at hs
      ·rename_i v o rh
       have goal:∃x,aF h0 h rk x=Ek r.heap∧∀g g3,aF h0 g rk x=Ek g3→pZ h0 g rk v o=Ek (r.at g3):=by
        unfold pZ at hs
        split at hs
        ·split at hs
         ·rename_i h' hn
          have h1:=zt hs
          refine⟨_,by rw[h1];exact hn,fun g g3 hg=>?_⟩
          simp only[pZ,hg,h1];rfl
         ·cases hs
        ·rename_i sz xs
         cases GL:(xs.flatMap qa.flat).all nH with
         |false=>rw[GL]at hs;cases hs
         |true=>
          rw[GL]at hs
          simp only[cT]at hs
          split at hs
          ·rename_i h' hn
           have h1:=zt hs
           refine⟨_,by rw[h1];exact hn,fun g g3 hg=>?_⟩
           simp only[pZ,GL,cT,hg,h1];rfl
          ·cases hs
        ·cases hs
       obtain⟨x,g1,g2⟩:=goal
       refine⟨x,g1,fun g g3 hg=>?_⟩
       simp only[j8,iI,e1,e2,rh]
       rw[hb,lH]
       exact g2 g g3 hg
      ·cases hs
    |true=>
     rw[hb]at hs
     simp only[cT]at hs
     split at hs
     ·rename_i es hm
      split at hs
      ·rename_i h' hn
       have h1:=zt hs
       refine⟨_,by rw[h1];exact hn,fun g g3 hg=>?_⟩
       simp only[j8,iI,e1,e2,hm]
       rw[hb]
       simp only[cT]
       rw[show qv.cz (.call (.fg rk) f l)=rk from rfl]at hg
       rw[hg,h1];rfl
      ·cases hs
     ·cases hs
   ·cases hs
   ·cases hs
  |bL=>
   simp only[j8,iI]at hs
   split at hs
   ·rename_i k first captured vs e1 e2
    cases hb:zr 0 (first++vs++captured)with
    |false=>rw[hb]at hs;cases hs
    |true=>
     rw[hb]at hs
     simp only[cT]at hs
     split at hs
     ·rename_i v o rh
      cases hs
      refine⟨rfl,fun h'=>?_⟩
      simp only[j8,iI,e1,e2,rh]
      rw[hb]
      rfl
     ·cases hs
   ·cases hs
   ·cases hs
 |append rk sz b x y=>
  cases rk with
  |none=>exact fL (fun _=>rfl) rfl
  |some rk=>
   simp only[j8,zi]at hs
   split at hs
   ·rename_i cJ vy e1 e2
    cases fH:((kn e x).isSome&&Gn sz cJ)with
    |false=>simp[fH]at hs
    |true=>
     simp only[fH,cT]at hs
     split at hs
     ·rename_i ys cx
      cases cV:(G3 ys.length 1073741824&&G3 b 4096&&Gf 0 sz)with
      |false=>simp[cV]at hs
      |true=>
       simp only[cV,cT]at hs
       split at hs
       ·rename_i h' hn
        cases hs
        refine⟨_,hn,fun g g3 hg=>?_⟩
        simp only[j8,zi,e1,e2,fH,cx,cV,cT]
        rw[show qv.cz (.append (Ek rk) sz b x y)=rk from rfl]at hg
        rw[hg];rfl
       ·cases hs
     ·cases hs
   ·cases hs
 |gG rk sz bt x y=>
  simp only[j8,zi]at hs
  split at hs
  ·rename_i Us vy e1 e2
   split at hs
   ·rename_i ys cx
    cases hk:(G3 ys.length 1073741824&&G3 bt 4096&&Gf 0 sz&&!ys.isEmpty&&zr 0 ys&&Gf rk 1000)with
    |false=>rw[hk]at hs;cases hs
    |true=>
     rw[hk]at hs
     simp only[cT]at hs
     split at hs
     ·rename_i h' cQ
      obtain rfl:=zt hs
      obtain⟨i1,i2⟩:=lE cQ
      have hrk:rk<1000:=by simp only[En]at hk;exact Gb.mp hk.2
      have m1:(rk+1000*sz) % 1000=rk:=by omega
      have m2:(rk+1000*sz) / 1000=sz:=by omega
      refine⟨h0+rk,.vec sz 0 ys,.hole,.inl ⟨by show _=h0+(rk+1000*sz) % 1000;rw[m1],rfl⟩,i1,i2,by show Ek sz=Ek ((rk+1000*sz) / 1000);rw[m2],fun g hg=>?_⟩
      simp only[j8,zi,e1,e2,cx,hk,cT,aF,hg]
      rfl
     ·cases hs
   ·cases hs
  ·rename_i b bz len vy e1 e2
   split at hs
   ·rename_i cJ de xs gd
    split at hs
    ·rename_i ys cx
     cases hk:(Gn bz de&&Gn sz cJ&&G3 len xs.length&&G3 (len+ys.length) 1073741824&&G3 bt 4096&&Gf 0 sz&&zr 0 ys&&Gf rk 1000)with
     |false=>rw[hk]at hs;cases hs
     |true=>
      rw[hk]at hs
      simp only[cT]at hs
      split at hs
      ·rename_i h' bn
       obtain rfl:=zt hs
       have ez:=hk
       simp only[En]at ez
       obtain⟨⟨⟨⟨⟨⟨⟨_,k2⟩,_⟩,_⟩,_⟩,_⟩,_⟩,k8⟩:=ez
       have cB:=Eu k2
       have hrk:rk<1000:=Gb.mp k8
       have m2:(rk+1000*sz) / 1000=sz:=by omega
       have bh:b<h.length:=by unfold kc at gd;exact(Eo.1 gd).1
       have hh:h'=h.set b (.vec sz (bz+1) (xs.take len++ys)):=by
        unfold yh at bn
        rw[Gb.mpr bh]at bn
        simpa using bn.symm
       refine⟨b,.vec sz (bz+1) (xs.take len++ys),.vec cJ de xs,.inr (by show Ek cJ=Ek ((rk+1000*sz) / 1000);rw[m2,cB]),gd,hh,by show Ek sz=Ek ((rk+1000*sz) / 1000);rw[m2],fun g hg=>?_⟩
       have jB:kc g b=Ek (.vec cJ de xs):=hg
       have vZ:b<g.length:=(Eo.1 hg).1
       simp only[j8,zi,e1,e2,jB,cx,hk,cT,yh,Gb.mpr vZ]
       rfl
      ·cases hs
    ·cases hs
   ·cases hs
  ·cases hs
 |ia rk sz n z ps=>trivial
 |bV rk sz b z n c=>
  cases rk with
  |none=>exact fL (fun _=>rfl) rfl
  |some rk=>
   simp only[j8,zi]at hs
   split at hs
   ·rename_i n' c' e1 e2
    cases hk:(Gn n' c'&&G3 n' 1073741824&&G3 b 4096&&Gn z.length sz&&Gf 0 sz&&z.all zd)with
    |false=>simp[hk]at hs
    |true=>
     simp only[hk,cT]at hs
     split at hs
     ·rename_i h' hn
      have h1:=zt hs
      refine⟨_,by rw[h1];exact hn,fun g g3 hg=>?_⟩
      simp only[j8,zi,e1,e2,hk,cT]
      rw[show qv.cz (.bV (Ek rk) sz b z n c)=rk from rfl]at hg
      rw[hg,h1];rfl
     ·cases hs
   ·cases hs
 |lookup kd z ok x y=>
  simp only[j8,gU]at hs
  split at hs
  ·rename_i b kv e1 e2
   cases hk:yv h0 al b with
   |false=>simp[hk]at hs
   |true=>
    simp only[hk,cT]at hs
    split at hs
    ·rename_i es hb
     have jB:∀h':za,(∀b,yv h0 al b=Ep→(pj al=Ep→nV h[b]?=Ep)→h'[b]?=h[b]?)→kc h' b=Ek (.map es):=fun h' cK=>by
      have U1:=Ez hb rfl
      unfold kc at hb ⊢;rw[cK b hk fun _=>U1,hb]
     split at hs
     ·rename_i i v hf
      refine⟨(mb (h':=h) hs).1,fun h' cK=>?_⟩
      simp only[j8,gU,e1,e2,hk,cT,jB h' cK,hf]
      exact(mb (h':=h') hs).2
     ·rename_i hf
      refine⟨(mb (h':=h) hs).1,fun h' cK=>?_⟩
      simp only[j8,gU,e1,e2,hk,cT,jB h' cK,hf]
      exact(mb (h':=h') hs).2
     ·cases hs
    ·cases hs
  ·rename_i kv e1 e2
   refine⟨(mb (h':=h) hs).1,fun h' cK=>?_⟩
   simp only[j8,gU,e1,e2]
   exact(mb (h':=h') hs).2
  ·cases hs
 |mapUpdate kd x y z=>
  simp only[j8,zi]at hs
  split at hs
  ·rename_i b kv v e1 e2 e3
   cases hk:yv h0 al b with
   |false=>simp[hk]at hs
   |true=>
    simp only[hk,cT]at hs
    split at hs
    ·rename_i es hb
     have jB:∀h':za,h'[b]?=h[b]?→kc h' b=Ek (.map es):=fun h' cK=>by
      unfold kc at hb ⊢;rw[cK,hb]
     split at hs
     ·rename_i i u hf
      split at hs
      ·rename_i h' bn
       have h1:=zt hs
       refine⟨b,_,hk,Ez hb rfl,rfl,by rw[h1];exact bn,fun g g3 eL hg=>?_⟩
       simp only[j8,zi,e1,e2,e3,hk,cT,jB g eL,hf,hg,h1]
       rfl
      ·cases hs
     ·rename_i hf
      cases hl:G3 es.length 1073741824 with
      |false=>simp[hl]at hs
      |true=>
       simp only[hl,cT]at hs
       split at hs
       ·rename_i h' bn
        have h1:=zt hs
        refine⟨b,_,hk,Ez hb rfl,rfl,by rw[h1];exact bn,fun g g3 eL hg=>?_⟩
        simp only[j8,zi,e1,e2,e3,hk,cT,jB g eL,hf,hl,hg,h1]
        rfl
       ·cases hs
     ·cases hs
    ·cases hs
  ·cases hs
 |delete kd x y=>
  simp only[j8,zi]at hs
  split at hs
  ·rename_i b kv e1 e2
   cases hk:yv h0 al b with
   |false=>simp[hk]at hs
   |true=>
    simp only[hk,cT]at hs
    split at hs
    ·rename_i es hb
     have jB:∀h':za,h'[b]?=h[b]?→kc h' b=Ek (.map es):=fun h' cK=>by
      unfold kc at hb ⊢;rw[cK,hb]
     split at hs
     ·rename_i rr hf
      split at hs
      ·rename_i h' bn
       have h1:=zt hs
       refine⟨b,_,hk,Ez hb rfl,rfl,by rw[h1];exact bn,fun g g3 eL hg=>?_⟩
       simp only[j8,zi,e1,e2,hk,cT,jB g eL,hf,hg,h1]
       rfl
      ·cases hs
     ·cases hs
    ·cases hs
  ·cases hs
 |copy sz x y=>
  simp only[j8,zi]at hs
  split at hs
  ·rename_i b o len vy e1 e2
   cases hk:yv h0 al b with
   |false=>simp[hk]at hs
   |true=>
    simp only[hk,cT]at hs
    split at hs
    ·rename_i cs hcs
     split at hs
     ·rename_i n us cx
      split at hs
      ·rename_i dV bO
       cases cV:Gn us.length (n*sz)with
       |false=>simp[cV]at hs
       |true=>
        simp only[cV,cT]at hs
        split at hs
        ·rename_i h' bn
         have h1:=zt hs
         refine⟨b,_,hk,G7 hcs,rfl,by rw[h1];exact bn,fun g g3 hb hg=>?_⟩
         simp only[j8,zi,e1,e2,hk,cT,G8 hb,hcs,cx,bO,cV,hg,h1]
         rfl
        ·cases hs
      ·cases hs
     ·cases hs
    ·cases hs
  ·cases hs
 |eW x=>
  simp only[j8,zi]at hs
  split at hs
  ·rename_i b hv
   cases hk:yv h0 al b with
   |false=>simp[hk]at hs
   |true=>
    simp only[hk,cT]at hs
    split at hs
    ·rename_i s pos hb
     have bh:b<h.length:=by unfold kc at hb;exact(Eo.1 hb).1
     cases hp:Gf pos s.length with
     |true=>
      simp only[hp,cT]at hs
      split at hs
      ·rename_i h' bn
       have h1:=zt hs
       refine⟨b,_,hk,Ez hb rfl,rfl,by rw[h1];exact bn,fun g g3 eL hg=>?_⟩
       have jB:kc g b=Ek (.iter s pos):=by unfold kc at hb ⊢;rw[eL,hb]
       simp only[j8,zi,hv,hk,cT,jB,hp,hg,h1]
       rfl
      ·cases hs
     |false=>
      simp only[hp,cond_false]at hs
      have h1:=zt hs
      have G9:h.set b (.iter s pos)=h:=by
       unfold kc at hb
       apply Hm
       intro k
       rw[If]
       split
       ·rename_i hbk;subst hbk;first|exact hb.symm|rw[if_pos bh,hb]
       ·rfl
      refine⟨b,.iter s pos,hk,Ez hb rfl,rfl,by rw[h1];unfold yh;rw[Gb.mpr bh];simp[G9],fun g g3 eL hg=>?_⟩
      have jB:kc g b=Ek (.iter s pos):=by unfold kc at hb ⊢;rw[eL,hb]
      have vZ:b<g.length:=by unfold kc at jB;exact(Eo.1 jB).1
      have AK:g3=g:=by
       unfold yh at hg
       rw[Gb.mpr vZ]at hg
       simp only[cT,Ek.injEq]at hg
       rw[←hg]
       unfold kc at jB
       apply Hm
       intro k
       rw[If]
       split
       ·rename_i hbk;subst hbk;first|exact jB.symm|rw[if_pos vZ,jB]
       ·rfl
      simp only[j8,zi,hv,hk,cT,jB,hp,cond_false,h1,AK]
      rfl
    ·cases hs
  ·cases hs
 |_=>exact fL (fun _=>rfl) rfl
theorem xN {h h' b x}(hs:yh h b x=Ek h'):b<h.length∧h'=h.set b x:=by
 unfold yh at hs
 cases hb:Gf b h.length with
 |false=>simp[hb]at hs
 |true=>exact⟨Gb.mp hb,by simpa[hb]using hs.symm⟩
theorem AL {h b x}(hb:b<h.length):yh h b x=Ek (h.set b x):=by
 unfold yh
 rw[Gb.mpr hb];rfl
theorem EA {h k x}(hh:h[h0+k]?=Ek .hole):aF h0 h k x=Ek (h.set (h0+k) x):=by
 unfold aF;rw[hh]
theorem EB {b k}(h:yv h0 al b=Ep)(hk:mP al k=Ga):b≠h0+k:=by
 intro hb
 subst hb
 cases al with
 |none=>simp[mP]at hk
 |some l=>
  simp only[yv,mP]at h hk
  have h1:Gf (h0+k) h0=Ga:=by
   cases hh:Gf (h0+k) h0 with
   |false=>rfl
   |true=>have:=Gb.mp hh;omega
  cases he:oq l with
  |false=>
   rw[he]at h hk
   simp only[cond_false]at h hk
   rw[h1,G5,show h0+k-h0=k from by omega,hk]at h
   cases h
  |true=>
   rw[he]at h hk
   simp only[cT]at h hk
   cases l with
   |nil=>cases he
   |cons x l=>
    simp only[zW]at h
    cases hx:Gf x 2000 with
    |true=>rw[hx]at h;simp only[cT,h1,Bool.and_false]at h;cases h
    |false=>
     rw[hx]at h
     simp only[cond_false]at h
     cases hx4:Gf x 4000 with
     |false=>rw[hx4]at h;simp only[cond_false,h1]at h;cases h
     |true=>
      rw[hx4]at h
      simp only[cT]at h
      have h2:=Eu h
      have h3:¬x<2000:=fun hh=>by rw[Gb.mpr hh]at hx;cases hx
      have h4:x=2000+k:=by omega
      rw[show(x::l).headD 0=x from rfl,h4,Hx]at hk
      cases hk
theorem qti {l:List Nat}{x}(h:(!(l.contains x))=Ep):l.contains x=Ga:=by
 cases hc:l.contains x with
 |false=>rfl
 |true=>rw[hc]at h;cases h
theorem U2 {U3 U4:Option (List Nat)}{b b'}(h:Ei U3 U4=Ep)(h1:yv h0 U3 b=Ep)(h2:yv h0 U4 b'=Ep):b≠b':=by
 intro hb
 subst hb
 cases U3 with
 |none=>cases h
 |some l=>
  cases U4 with
  |none=>cases h
  |some m=>
   simp only[Ei,yv]at h h1 h2
   have inv:∀ {k:List Nat},oq k=Ep→Gf (k.headD 0) 4000=Ep→zW h0 k b=Ep→(1000≤k.headD 0)∧((k.headD 0<2000∧b=k.headD 0-1000∧b<h0)∨(2000≤k.headD 0∧b=h0+(k.headD 0-2000))):=by
    intro k he h4 hq
    cases k with
    |nil=>cases he
    |cons x k=>
     refine⟨G6 he,?_⟩
     simp only[zW]at hq
     cases hx:Gf x 2000 with
     |true=>
      rw[hx]at hq
      simp only[cT,En]at hq
      exact .inl ⟨Gb.mp hx,Eu hq.1,Gb.mp hq.2⟩
     |false=>
      rw[hx,show Gf x 4000=Ep from h4]at hq
      simp only[cond_false,cT]at hq
      have h3:¬x<2000:=fun hh=>by rw[Gb.mpr hh]at hx;cases hx
      exact .inr ⟨by show 2000≤x;omega,Eu hq⟩
   have old:∀ {k:List Nat} {r:Nat},b=h0+r→k.contains r=Ga→(Gf b h0||k.contains (b-h0))=Ep→False:=by
    intro k r gY hc hq
    have h3:Gf b h0=Ga:=by
     cases hh:Gf b h0 with
     |false=>rfl
     |true=>have:=Gb.mp hh;omega
    rw[h3,G5,show b-h0=r by omega,hc]at hq
    cases hq
   cases hl:oq l with
   |true=>
    rw[hl]at h h1
    simp only[cT]at h h1
    cases hm:oq m with
    |true=>
     rw[hm]at h h2
     simp only[cT,En]at h h2
     obtain⟨i1,i2⟩:=inv hl h.1.2 h1
     obtain⟨i3,i4⟩:=inv hm h.2 h2
     have bu:l.headD 0≠m.headD 0:=fun e=>by rw[e,Hx]at h;exact absurd h.1.1 (by simp)
     omega
    |false=>
     rw[hm]at h h2
     simp only[cond_false,En]at h h2
     obtain⟨i1,i2⟩:=inv hl h.1.2 h1
     have h3:=G6 h.1.1
     exact old (by omega) (qti h.2) h2
   |false=>
    rw[hl]at h h1
    simp only[cond_false,En]at h h1
    obtain⟨⟨⟨h3,h4⟩,h6⟩,h5⟩:=h
    rw[h3]at h2
    simp only[cT]at h2
    obtain⟨i3,i4⟩:=inv h3 h6 h2
    have h4:=G6 h4
    exact old (by omega) (qti h5) h1
theorem U5 {F h r k}(H:HB h0 al F h r .take k):HB h0 al F h r .write k:=by
 obtain⟨b,cs,v,o,hb,hc,hv,hs,h4⟩:=H
 have bh:b<h.length:=(Eo.1 hc).1
 refine⟨b,.cells (cs.set k (v,Ga)),hb,by rw[hc];rfl,rfl,by rw[hs];exact AL bh,fun h' h3 hh bn=>?_⟩
 rw[h4 h' cs (by rw[hh];exact hc) hv]
 obtain⟨_,s2⟩:=xN bn
 rw[s2]
theorem jhw {ca cb ka kb px py Fa Fb h ra rb}(xO:Fb h=Ek rb)(Hc:Fa rb.heap=Ek ra)(Hb:HB h0 py Fb h rb cb kb)(Ha:HB h0 px Fa rb.heap ra ca ka)
  (dz:cb=.read∨cb=.write∨cb=.take) (dL:ca=.read∨ca=.write∨ca=.take) (rj:Ei py px=Ep):
  ∃h1,Fa h=Ek (ra.at h1)∧Fb h1=Ek (rb.at ra.heap):=by
 have hat:∀r:qo,r.at r.heap=r:=fun _=>rfl
 have wb:(cb=.read∧HB h0 py Fb h rb .read kb)∨HB h0 py Fb h rb .write kb:=by
  rcases dz with rfl|rfl|rfl
  ·exact .inl ⟨rfl,Hb⟩
  ·exact .inr Hb
  ·exact .inr (U5 Hb)
 have wa:(ca=.read∧HB h0 px Fa rb.heap ra .read ka)∨HB h0 px Fa rb.heap ra .write ka:=by
  rcases dL with rfl|rfl|rfl
  ·exact .inl ⟨rfl,Ha⟩
  ·exact .inr Ha
  ·exact .inr (U5 Ha)
 rcases wb with⟨_,h1,h2⟩|⟨b,x,hb,_,_,hs,h2⟩
 ·rcases wa with⟨_,h3,h4⟩|⟨b',y,eL,_,_,gy,h4⟩
  ·exact⟨h,h4 h (fun b _ _=>by rw[h1]),by rw[h3,hat];exact xO⟩
  ·rw[h1]at gy
   obtain⟨s1,s2⟩:=xN gy
   refine⟨ra.heap,by rw[hat,←Hc,h1],h2 _ (fun b hb _=>?_)⟩
   rw[s2,I (Gh (U2 rj hb eL))]
 ·obtain⟨s1,s2⟩:=xN hs
  rcases wa with⟨_,h3,h4⟩|⟨b',y,eL,_,_,gy,h4⟩
  ·refine⟨h,h4 h (fun b' eL _=>?_),by rw[h3,hat];exact xO⟩
   rw[s2,I (U2 rj hb eL)]
  ·obtain⟨s3,s4⟩:=xN gy
   have bu:=U2 rj hb eL
   rw[s2,Gx]at s3
   refine⟨h.set b' y,h4 _ _ (by rw[s2,I bu]) (AL s3),h2 _ _ (by rw[I (Gh bu)]) ?_⟩
   rw[AL (by rw[Gx];exact s1),s4,s2,Gc _ _ (Gh bu)]
def N8 (ca cb:jr)(ka kb:Nat)(px py:Option (List Nat)):Prop:=
 (cb=.nK∧ca=.nK∧kb % 1000≠ka % 1000∧kb / 1000≠ka / 1000)∨(cb=.nK∧(ca=.read∨ca=.write∨ca=.take)∧pj px=Ep)∨((cb=.read∨cb=.write∨cb=.take)∧ca=.nK∧pj py=Ep)
theorem juj {ca cb ka kb px py Fa Fb h ra rb}(xO:Fb h=Ek rb)(Hc:Fa rb.heap=Ek ra)(Hb:HB h0 py Fb h rb cb kb)(Ha:HB h0 px Fa rb.heap ra ca ka)
  (di:N8 ca cb ka kb px py):∃h1,Fa h=Ek (ra.at h1)∧Fb h1=Ek (rb.at ra.heap):=by
 have hat:∀r:qo,r.at r.heap=r:=fun _=>rfl
 have Hd:∀ {c:jr} {k:Nat} {al:Option (List Nat)} {F:za→Option qo} {g:za} {r:qo},HB h0 al F g r c k→(c=.read∨c=.write∨c=.take)→HB h0 al F g r .read k∨HB h0 al F g r .write k:=by
  intro c k al F g r H hc
  rcases hc with rfl|rfl|rfl
  ·exact .inl H
  ·exact .inr H
  ·exact .inr (U5 H)
 have nvs:∀ {x:qn} {z:Nat},U0 x=Ek z→nV (Ek x)=Ga:=fun {x z} h=>by cases x<;>first|rfl|cases h
 rcases di with⟨rfl,rfl,n1,n2⟩|⟨rfl,dL,hs⟩|⟨dz,rfl,hs⟩
 ·obtain⟨q,x,y,hq,hy,hh,hx,hF⟩:=Hb
  obtain⟨q',x',y',N2,qK,U6,eK,hF'⟩:=Ha
  have bh:q<h.length:=(Eo.1 hy).1
  have bu:q≠q':=by
   intro he
   subst he
   rw[hh,Gl bh]at qK
   cases qK
   rcases N2 with⟨_,rfl⟩|h4
   ·cases hx
   ·rw[hx]at h4;exact n2 (Ek.inj h4)
  rw[hh,I bu]at qK
  refine⟨h.set q' x',hF' h qK,?_⟩
  rw[hF _ (by rw[I (Gh bu)];exact hy),U6,hh,Gc _ _ bu]
 ·obtain⟨q,x,y,hq,hy,hh,hx,hF⟩:=Hb
  have bh:q<h.length:=(Eo.1 hy).1
  -- the box that the append wrote is a vector now
  have cQ:nV rb.heap[q]?=Ga:=by rw[hh,Gl bh];exact nvs hx
  rcases Hd Ha dL with⟨h3,h4⟩|⟨b,z,hb,hn,U7,hz,h4⟩
  ·refine⟨h,h4 h (fun b hb hn=>?_),by rw[h3,hat];exact xO⟩
   have bu:b≠q:=fun e=>by subst e;rw[hn hs]at cQ;cases cQ
   rw[hh,I (Gh bu)]
  ·have bu:b≠q:=fun e=>by subst e;rw[hn]at cQ;cases cQ
   obtain⟨s1,s2⟩:=xN hz
   rw[hh,Gx]at s1
   refine⟨h.set b z,h4 _ _ (by rw[hh,I (Gh bu)]) (AL s1),?_⟩
   rw[hF _ (by rw[I bu];exact hy),s2,hh,Gc _ _ bu]
 ·obtain⟨q,x,y,hq,hy,hh,hx,hF⟩:=Ha
  have hold:nV (Ek y)=Ga:=by
   rcases hq with⟨_,rfl⟩|h1
   ·rfl
   ·exact nvs h1
  rcases Hd Hb dz with⟨h3,h4⟩|⟨b,z,hb,hn,U7,hz,h4⟩
  ·rw[h3]at hy hh
   refine⟨h.set q x,hF h hy,?_⟩
   rw[h4 (h.set q x) (fun b hb hn=>by
    have bu:b≠q:=fun e=>by subst e;rw[hy]at hn;rw[hold]at hn;exact absurd (hn hs) (by simp)
    rw[I (Gh bu)]),hh]
  ·obtain⟨s1,s2⟩:=xN hz
   have bu:b≠q:=by
    intro e
    subst e
    rw[s2,Gl s1]at hy
    rw[Ek.inj hy,hold]at U7
    cases U7
   rw[s2,I bu]at hy
   refine⟨h.set q x,hF h hy,h4 _ _ (by rw[I (Gh bu)]) ?_⟩
   rw[AL (by rw[Gx];exact s1),hh,s2,Gc _ _ (Gh bu)]
theorem jmb {ca cb ka kb px py Fa Fb h ra rb}(xO:Fb h=Ek rb)(Hc:Fa rb.heap=Ek ra)(Hb:HB h0 py Fb h rb cb kb)(Ha:HB h0 px Fa rb.heap ra ca ka)
  (di:cb=.pure∨ca=.pure∨(cb=.read∧ca=.read)∨(cb=.alloc∧ca=.alloc∧kb≠ka)∨(cb=.alloc∧(ca=.read∨ca=.write∨ca=.take)∧mP px kb=Ga)∨((cb=.read∨cb=.write∨cb=.take)∧ca=.alloc∧mP py ka=Ga)∨(cb=.take∧ca=.take∧kb≠ka)):
  ∃h1,Fa h=Ek (ra.at h1)∧Fb h1=Ek (rb.at ra.heap):=by
 have hat:∀r:qo,r.at r.heap=r:=fun _=>rfl
 rcases di with rfl|rfl|⟨rfl,rfl⟩|⟨rfl,rfl,bu⟩|⟨rfl,dL,oA⟩|⟨dz,rfl,oA⟩|⟨rfl,rfl,bu⟩
 ·obtain⟨h1,h2⟩:=Hb
  exact⟨ra.heap,by rw[hat,←Hc,h1],h2 _⟩
 ·obtain⟨h1,h2⟩:=Ha
  exact⟨h,h2 _,by rw[h1,hat];exact xO⟩
 ·obtain⟨h1,h2⟩:=Hb
  obtain⟨h3,h4⟩:=Ha
  exact⟨h,h4 h (fun b _ _=>by rw[h1]),by rw[h3,hat];exact xO⟩
 ·obtain⟨x,n1,n2⟩:=Hb
  obtain⟨y,n3,n4⟩:=Ha
  obtain⟨i1,i2⟩:=lE n1
  obtain⟨i3,i4⟩:=lE n3
  rw[i2,I (by omega)]at i3
  refine⟨h.set (h0+ka) y,n4 _ _ (EA i3),n2 _ _ ?_⟩
  rw[EA (by rw[I (by omega)];exact i1),i4,i2,Gc _ _ (by omega)]
 ·obtain⟨x,n1,n2⟩:=Hb
  obtain⟨i1,i2⟩:=lE n1
  rcases dL with rfl|rfl|rfl
  ·obtain⟨h3,h4⟩:=Ha
   refine⟨h,h4 h (fun b hb _=>?_),by rw[h3,hat];exact xO⟩
   rw[i2,I (Gh (EB hb oA))]
  ·obtain⟨b,y,hb,_,_,hs,h4⟩:=Ha
   obtain⟨s1,s2⟩:=xN hs
   have bu:=EB hb oA
   rw[i2,Gx]at s1
   refine⟨h.set b y,h4 _ _ (by rw[i2,I (Gh bu)]) (AL s1),n2 _ _ ?_⟩
   rw[EA (by rw[I bu];exact i1),s2,i2,Gc _ _ bu]
  ·obtain⟨b,cs,v,o,hb,hc,hv,hs,h4⟩:=Ha
   have bu:=EB hb oA
   rw[i2,I (Gh bu)]at hc
   refine⟨_,h4 _ _ hc hv,n2 _ _ ?_⟩
   rw[EA (by rw[I bu];exact i1),hs,i2,Gc _ _ bu]
 ·obtain⟨y,n3,n4⟩:=Ha
  obtain⟨i3,i4⟩:=lE n3
  rcases dz with rfl|rfl|rfl
  ·obtain⟨h1,h2⟩:=Hb
   refine⟨ra.heap,by rw[hat,←Hc,h1],h2 _ (fun b hb _=>?_)⟩
   rw[i4,h1,I (Gh (EB hb oA))]
  ·obtain⟨b,x,hb,_,_,hs,h2⟩:=Hb
   obtain⟨s1,s2⟩:=xN hs
   have bu:=EB hb oA
   rw[s2,I bu]at i3
   refine⟨h.set (h0+ka) y,n4 _ _ (EA i3),h2 _ _ (by rw[I (Gh bu)]) ?_⟩
   rw[AL (by rw[Gx];exact s1),i4,s2,Gc _ _ (Gh bu)]
  ·obtain⟨b,cs,v,o,hb,hc,hv,hs,h2⟩:=Hb
   have bu:=EB hb oA
   rw[hs,I bu]at i3
   refine⟨h.set (h0+ka) y,n4 _ _ (EA i3),?_⟩
   rw[h2 _ cs (by rw[I (Gh bu)];exact hc) hv,i4,hs,Gc _ _ (Gh bu)]
 ·obtain⟨b,cs,v,o,hb,hc,hv,hs,h2⟩:=Hb
  obtain⟨b',dV,v',o',eL,dA,AO,gy,h4⟩:=Ha
  have bh:b<h.length:=(Eo.1 hc).1
  by_cases EC:b'=b
  ·subst EC
   rw[hs,Gl bh]at dA
   cases dA
   rw[I bu]at AO
   refine⟨h.set b' (.cells (cs.set ka (v',Ga))),h4 h cs hc AO,?_⟩
   rw[h2 _ (cs.set ka (v',Ga)) (by rw[Gl bh]) (by rw[I (Gh bu)];exact hv),gy,hs]
   simp only[List.set_set]
   rw[Gc _ _ bu]
  ·rw[hs,I (Gh EC)]at dA
   refine⟨h.set b' (.cells (dV.set ka (v',Ga))),h4 h dV dA AO,?_⟩
   rw[h2 _ cs (by rw[I EC];exact hc) hv,gy,hs,Gc _ _ EC]
end
section
variable {p:qr}{xc:XC}{h0:Nat}
def lL (p:qr)(xc:XC)(h0:Nat)(o:qx)(e:Env)(h:za):Option qo:=
 match mL e o.guard with
 |some Ep=>j8 p xc h0 o.al e h o.op
 |some Ga=>Ek ⟨.undef,Ga,none,h⟩
 |none=>none
def pz (o:qx)(e:Env)(r:qo):Env:=nI (gq e r.strip) o.dst r.v r.own
theorem ED (o:qx)(st:qg):iJ p xc h0 o st=(lL p xc h0 o st.env st.heap).map fun r=>⟨pz o st.env r,r.heap⟩:=by
 unfold iJ lL
 cases hg:mL st.env o.guard with
 |none=>rfl
 |some b=>
  cases b with
  |false=>rfl
  |true=>
   simp only[]
   cases j8 p xc h0 o.al st.env st.heap o.op<;>rfl
theorem q1k {e e' g}(h:Agree (match g with|some g=>[g.1]|none=>[]) e e'):mL e g=mL e' g:=by
 cases g with
 |none=>rfl
 |some g=>simp only[mL,h g.1 (by simp)]
theorem U8 {o e e' h}(ha:Agree o.reads e e'):lL p xc h0 o e h=lL p xc h0 o e' h:=by
 have h1:Agree o.op.reads e e':=(Agree.app ha).1
 have h2:=(Agree.app ha).2
 simp only[lL,q1k h2,q3v h1]
theorem q6h {h0 r h v o res}(hs:pZ h0 h r v o=Ek res):res.strip=none:=by
 unfold pZ at hs
 simp only[Gi,val]at hs
 repeat' split at hs
 all_goals first
  |(cases hs;done)
  |(cases hs;rfl)
theorem q1z {al e h op r}(hs:j8 p xc h0 al e h op=Ek r){s}(hr:r.strip=Ek s):s∈op.fi:=by
 have own:∀ {x:qp},kn e x=Ek s→s∈y6 x:=by
  intro x h
  obtain⟨rfl,_⟩:=Gj h
  simp[y6]
 have nX:∀ {x:qa},val h x=Ek r→False:=fun hv=>by rw[zt hv]at hr;cases hr
 have AP:∀ {x:Option qa},fX h x=Ek r→False:=fun hv=>by obtain⟨_,_,h1⟩:=uR hv;rw[h1]at hr;cases hr
 cases op with
 |take t=>
  simp only[j8,zh]at hs
  split at hs
  ·cases hs;simp at hr;simp[qv.fi,hr]
  ·cases hs
 |append rk sz b x y=>
  cases rk with
  |some rk=>
   simp only[j8,zi,Gi]at hs
   repeat' split at hs
   all_goals first
    |(cases hs;done)
    |(cases hs;exact own hr)
  |none=>
   simp only[j8,zh,Gi]at hs
   repeat' split at hs
   all_goals first
    |(cases hs;done)
    |(cases hs;exact own hr)
 |store n x y=>
  simp only[j8,zi,Gi]at hs
  repeat' split at hs
  all_goals first
   |(cases hs;done)
   |exact(nX hs).elim
   |(rename_i ht _ _ _ _;cases hs;simp only[Ek.injEq]at hr;subst hr;exact own ht)
   |(unfold val at hs;cases hs;cases hr;done)
   |skip
 |bV rk sz b z n c=>
  cases rk with
  |some rk=>
   simp only[j8,zi,Gi]at hs
   repeat' split at hs
   all_goals first
    |(cases hs;done)
    |exact(nX hs).elim
    |(unfold val at hs;cases hs;cases hr;done)
  |none=>
   simp only[j8,zh,Gi]at hs
   repeat' split at hs
   all_goals first
    |(cases hs;done)
    |(cases hs;cases hr;done)
 |call md f l=>
  cases md<;>simp only[j8,iI,Gi]at hs
  all_goals
   repeat' split at hs
  all_goals first
   |(cases hs;done)
   |exact(nX hs).elim
   |(cases hs;cases hr;done)
   |(rw[q6h hs]at hr;cases hr;done)
 |_=>
  simp only[j8,zh,gU,zi,Gi]at hs
  repeat' split at hs
  all_goals first
   |(cases hs;done)
   |exact(nX hs).elim
   |exact(AP hs).elim
   |(cases hs;cases hr;done)
   |(unfold val at hs;cases hs;cases hr;done)
theorem qy7 {o e h r}(hs:lL p xc h0 o e h=Ek r){s}(hr:r.strip=Ek s):s∈o.op.fi:=by
 unfold lL at hs
 split at hs
 ·exact q1z hs hr
 ·cases hs;cases hr
 ·cases hs
theorem EE {s x e}:yd s ((s,x)::e)=Ek x:=by
 simp only[yd,Hx,cT]
theorem N9 {s t x e}(h:s≠t):yd s ((t,x)::e)=yd s e:=by
 have:Gn t s=Ga:=by
  cases hb:Gn t s with
  |false=>rfl
  |true=>exact absurd (Eu hb).symm h
 simp only[yd,this,cond_false]
theorem U9 {s e x}(h:∀t,x=Ek t→s≠t):yd s (gq e x)=yd s e:=by
 cases x with
 |none=>rfl
 |some t=>
  simp only[gq]
  split
  ·exact N9 (h t rfl)
  ·rfl
theorem qvx {s e e' x}(h:yd s e=yd s e'):yd s (gq e x)=yd s (gq e' x):=by
 cases x with
 |none=>exact h
 |some t=>
  by_cases bO:s=t
  ·subst bO
   simp only[gq]
   rw[←h]
   cases hl:yd s e with
   |none=>simp only[];rw[hl,←h,hl]
   |some y=>simp only[];rw[EE,EE]
  ·rw[U9 (fun u hu=>by cases hu;exact bO),U9 (fun u hu=>by cases hu;exact bO)]
   exact h
theorem Va {s e d v o}(h:∀t,d=Ek t→s≠t):yd s (nI e d v o)=yd s e:=by
 cases d with
 |none=>rfl
 |some t=>exact N9 (h t rfl)
theorem q0h {s e e' d v o}(h:yd s e=yd s e'):yd s (nI e d v o)=yd s (nI e' d v o):=by
 cases d with
 |none=>exact h
 |some t=>
  by_cases bO:s=t
  ·subst bO;simp only[nI];rw[EE,EE]
  ·rw[Va (fun u hu=>by cases hu;exact bO),Va (fun u hu=>by cases hu;exact bO)];exact h
theorem Vb {o s e e' r}(h:yd s e=yd s e'):yd s (pz o e r)=yd s (pz o e' r):=q0h (qvx h)
theorem EF {o s e r}(hr:∀t,r.strip=Ek t→t∈o.op.fi)(h:s ∉ o.writes):yd s (pz o e r)=yd s e:=by
 unfold pz
 rw[Va,U9]
 ·intro t ht bO
  exact h (Hq _ (bO▸hr t ht))
 ·intro t ht bO
  exact h (Ht _ (by rw[ht,bO];simp))
theorem jd6 {o e r h}:pz o e (r.at h)=pz o e r:=rfl
def jC (a b:qg):Prop:=a.heap=b.heap∧∀s,yd s a.env=yd s b.env
theorem jC.refl (a:qg):jC a a:=⟨rfl,fun _=>rfl⟩
theorem jC.trans {a b c}(h:jC a b)(k:jC b c):jC a c:=⟨h.1.trans k.1,fun s=>(h.2 s).trans (k.2 s)⟩
theorem qz6 {o a b a'}(h:jC a b)(hs:iJ p xc h0 o a=Ek a'):∃b',iJ p xc h0 o b=Ek b'∧jC a' b':=by
 rw[ED]at hs
 obtain⟨r,hr,rfl⟩:=Gw.1 hs
 rw[U8 (e':=b.env) (fun s _=>h.2 s),h.1]at hr
 refine⟨⟨pz o b.env r,r.heap⟩,by rw[ED,hr];rfl,rfl,fun s=>Vb (h.2 s)⟩
theorem qy9:∀ {l:List qx} {a b a':qg},jC a b→fG p xc h0 l a=Ek a'→∃b',fG p xc h0 l b=Ek b'∧jC a' b'
 | [],a,b,a',h,hs=>by simp only[fG,Ek.injEq]at hs ⊢;subst hs;exact⟨b,rfl,h⟩
 |o::l,a,b,a',h,hs=>by
  simp only[fG]at hs
  split at hs
  ·rename_i a1 h1
   obtain⟨b1,k1,k2⟩:=qz6 h h1
   obtain⟨b',k3,k4⟩:=qy9 k2 hs
   exact⟨b',by simp only[fG,k1,k3],k4⟩
  ·cases hs
theorem jc9 {o e h r}(hs:lL p xc h0 o e h=Ek r):∃c k,HB h0 o.al (lL p xc h0 o e) h r c k∧(c=.pure∨(c=o.op.cl∧k=o.op.cz)):=by
 unfold lL at hs
 cases hg:mL e o.guard with
 |none=>rw[hg]at hs;cases hs
 |some b=>
  cases b with
  |false=>
   rw[hg]at hs
   cases hs
   exact⟨.pure,0,⟨rfl,fun h'=>by simp only[lL,hg];rfl⟩,.inl rfl⟩
  |true=>
   rw[hg]at hs
   have:=jd8 hs
   have heq:(fun h=>j8 p xc h0 o.al e h o.op)=lL p xc h0 o e:=by
    funext h;simp only[lL,hg]
   rw[heq]at this
   exact⟨_,_,this,.inr ⟨rfl,rfl⟩⟩
theorem ja5 {a b}(h:TL a b=Ep):a.op.cl=.pure∨b.op.cl=.pure∨a.op.cl=.fg∨b.op.cl=.fg∨(a.op.cl=.read∧b.op.cl=.read)∨(a.op.cl=.alloc∧b.op.cl=.alloc∧a.op.cz≠b.op.cz) ∨
  (a.op.cl=.alloc∧(b.op.cl=.read∨b.op.cl=.write∨b.op.cl=.take)∧mP b.al a.op.cz=Ga)∨((a.op.cl=.read∨a.op.cl=.write∨a.op.cl=.take)∧b.op.cl=.alloc∧mP a.al b.op.cz=Ga)∨(a.op.cl=.take∧b.op.cl=.take∧a.op.cz≠b.op.cz)∨((a.op.cl=.read∨a.op.cl=.write∨a.op.cl=.take)∧(b.op.cl=.read∨b.op.cl=.write∨b.op.cl=.take)∧Ei a.al b.al=Ep)∨N8 b.op.cl a.op.cl b.op.cz a.op.cz b.al a.al:=by
 unfold TL at h
 rw[Od]at h
 rcases h with h|h
 ·simp only[En]at h
  obtain⟨⟨h1,h2⟩,h3⟩:=h
  have hb:∀ {c:jr},c.box=Ep→c=.read∨c=.write∨c=.take:=fun {c} hc=>by cases c<;>first|(cases hc;done)|simp
  simp only[hb h1,hb h2,h3,and_self,or_true,true_or]
 unfold N8
 cases ha:a.op.cl<;>cases hb:b.op.cl<;>simp_all
theorem Vc {a b}(h:F6 a b=Ep){s}(hs:s∈a):s ∉ b:=by
 unfold F6 at h
 rw[Gr]at h
 have:=h s hs
 simpa using this
theorem zcz {a b st s1 s2}(hm:Ac b a=Ep)(h1:iJ p xc h0 b st=Ek s1)(h2:iJ p xc h0 a s1=Ek s2):
  ∃t1 t2,iJ p xc h0 a st=Ek t1∧iJ p xc h0 b t1=Ek t2∧jC s2 t2:=by
 rw[ED]at h1
 obtain⟨rb,hb,rfl⟩:=Gw.1 h1
 rw[ED]at h2
 obtain⟨ra,ha,rfl⟩:=Gw.1 h2
 simp only[Ac,En]at hm
 obtain⟨⟨⟨hc,d1⟩,d2⟩,d3⟩:=hm
 have sb:∀t,rb.strip=Ek t→t∈b.op.fi:=fun t ht=>qy7 hb ht
 have sa:∀t,ra.strip=Ek t→t∈a.op.fi:=fun t ht=>qy7 ha ht
 -- the later one reads nothing that the earlier one writes
 have Oa:lL p xc h0 a st.env rb.heap=Ek ra:=by
  rw[←ha]
  refine U8 fun s hs=>(EF sb ?_).symm
  exact fun hw=>Vc d1 hw hs
 obtain⟨cb,kb,Hb,ob⟩:=jc9 hb
 obtain⟨ca,ka,Ha,oa⟩:=jc9 Oa
 have rj:((cb=.read∨cb=.write∨cb=.take)∧(ca=.read∨ca=.write∨ca=.take)∧Ei b.al a.al=Ep)∨(cb=.pure∨ca=.pure∨(cb=.read∧ca=.read)∨(cb=.alloc∧ca=.alloc∧kb≠ka)∨(cb=.alloc∧(ca=.read∨ca=.write∨ca=.take)∧mP a.al kb=Ga)∨((cb=.read∨cb=.write∨cb=.take)∧ca=.alloc∧mP b.al ka=Ga)∨(cb=.take∧ca=.take∧kb≠ka))∨N8 ca cb ka kb a.al b.al:=by
  rcases ob with rfl|⟨rfl,rfl⟩
  ·exact .inr (.inl (.inl rfl))
  rcases oa with rfl|⟨rfl,rfl⟩
  ·exact .inr (.inl (.inr (.inl rfl)))
  rcases ja5 hc with h|h|h|h|h|h|h|h|h|h|h
  ·exact .inr (.inl (.inl h))
  ·exact .inr (.inl (.inr (.inl h)))
  ·rw[h]at Hb;exact Hb.elim
  ·rw[h]at Ha;exact Ha.elim
  ·exact .inr (.inl (.inr (.inr (.inl h))))
  ·exact .inr (.inl (.inr (.inr (.inr (.inl h)))))
  ·exact .inr (.inl (.inr (.inr (.inr (.inr (.inl h))))))
  ·exact .inr (.inl (.inr (.inr (.inr (.inr (.inr (.inl h)))))))
  ·exact .inr (.inl (.inr (.inr (.inr (.inr (.inr (.inr h)))))))
  ·exact .inl h
  ·exact .inr (.inr h)
 have hsw:∃h1,lL p xc h0 a st.env st.heap=Ek (ra.at h1)∧lL p xc h0 b st.env h1=Ek (rb.at ra.heap):=by
  rcases rj with⟨q1,q2,q3⟩|di|di
  ·exact jhw hb Oa Hb Ha q1 q2 q3
  ·exact jmb hb Oa Hb Ha di
  ·exact juj hb Oa Hb Ha di
 obtain⟨h3,k1,k2⟩:=hsw
 have k2':lL p xc h0 b (pz a st.env (ra.at h3)) h3=Ek (rb.at ra.heap):=by
  rw[←k2]
  refine U8 fun s hs=>EF (fun t ht=>sa t ht) ?_
  exact fun hw=>Vc d3 hw hs
 refine⟨⟨pz a st.env (ra.at h3),h3⟩,⟨pz b (pz a st.env (ra.at h3)) (rb.at ra.heap),ra.heap⟩,by rw[ED,k1];rfl,by rw[ED];simp only[k2'];rfl,rfl,fun s=>?_⟩
 simp only[jd6]
 by_cases hw:s∈a.writes
 ·have Ev:s ∉ b.writes:=fun h=>Vc d2 h hw
  rw[EF sb Ev]
  exact Vb (EF sb Ev)
 ·rw[EF sa hw]
  exact Vb (EF sa hw).symm
theorem qw4:∀ {l1 l2:List qx} {a:qx} {st s2:qg},(∀b∈l1,Ac b a=Ep)→fG p xc h0 (l1++a::l2) st=Ek s2 →
  ∃t1 t2,iJ p xc h0 a st=Ek t1∧fG p xc h0 (l1++l2) t1=Ek t2∧jC s2 t2
 | [],l2,a,st,s2,_,hs=>by
  simp only[List.nil_append,fG]at hs
  split at hs
  ·rename_i t1 h1;exact⟨t1,s2,h1,hs,jC.refl _⟩
  ·cases hs
 |b::l1,l2,a,st,s2,hm,hs=>by
  simp only[N3,fG]at hs
  split at hs
  ·rename_i s h1
   obtain⟨u1,u2,h2,h3,h4⟩:=qw4 (fun c hc=>hm c (by simp[hc])) hs
   obtain⟨t1,t2,h5,h6,h7⟩:=zcz (hm b (by simp)) h1 h2
   obtain⟨u3,h8,h9⟩:=qy9 h7 h3
   exact⟨t1,u3,h5,by simp only[N3,fG,h6,h8],h4.trans h9⟩
  ·cases hs
end
def cX (P:Program)(w0:World)(C0 C:aA)(nt:Nat)(st:qg)(a:Act)(w:World):Prop:=
 a.tmps.size=nt∧∃C' ω',C.le C'∧Marks C' w0.heap.size a.defers∧av P C' ω' w0 C0 st.heap w∧ak C' ω' w w0.heap.size st.env a.tmps
structure jq (P:Program)(nt:Nat)(ops:Array Oper)(o:Oper)(ao:qx):Prop where
 op:∃h md r,(cw P h md r o.dst o.op).getD .bad=ao.op
 guard:Eg ops o.guard=Ek ao.guard
 dst:ao.dst=ao.op.xt o.dst
 fits:∀d,o.dst=Ek d→d<nt
 vfits:∀d,ao.op.gI=Ek d→d<nt
 He:∀d,ao.op.gI=Ek d→o.dst=none∧o.guard=none
section
variable {P:Program}{p:qr}{xc:XC}{C C0:aA}{w0:World}{nt h0:Nat}{ops:Array Oper}{ρ:Option Nat}
theorem cX.eqv {st bF a w}(h:cX P w0 C0 C nt st a w)(he:jC st bF):cX P w0 C0 C nt bF a w:=by
 obtain⟨h1,C',ω',h3,h2,h4,h5⟩:=h
 exact⟨h1,C',ω',h3,h2,he.1▸h4,fun s x hx=>h5 s x (by rw[he.2 s];exact hx)⟩
theorem ak.putAt {ω w B d e tmps v u o}(he:ak C ω w B e tmps)(hd:d<tmps.size)(hr:bG C v u)(ho:o=Ep→aB C ω w B (.slot d) v u):ak C ω w B ((d,v,o)::e) (tmps.setIfInBounds d u):=by
 intro s x hx
 by_cases Vd:s=d
 ·subst Vd
  rw[EE]at hx
  cases hx
  exact⟨u,by simp[hd],hr,ho⟩
 ·rw[N9 Vd]at hx
  obtain⟨y,h1,h2,h3⟩:=he s x hx
  exact⟨y,by rw[Array.getElem?_setIfInBounds_ne (Gh Vd)];exact h1,h2,h3⟩
theorem jcx {ao:qx}{st:qg}{a:Act}{w:World}{C1:aA}{ω1:Nat→Option Loc}{e:Env}{h:za}{v:qa}{u:Value}{own:Bool}{o:Oper}(hd:ao.dst=o.dst)(hf:∀d,o.dst=Ek d→d<nt)(hs:a.tmps.size=nt)(kI:Marks C1 w0.heap.size a.defers)(hle:C.le C1)(m:av P C1 ω1 w0 C0 h w)(he:ak C1 ω1 w w0.heap.size e a.tmps)(hr:bG C1 v u)(ho:own=Ep→aB C1 ω1 w w0.heap.size (.slot (o.dst.getD 0)) v u):
  cX P w0 C0 C nt ⟨nI e ao.dst v own,h⟩ (a.put o.dst u) w:=by
 rw[hd]
 cases Ob:o.dst with
 |none=>exact⟨hs,C1,ω1,hle,kI,m,he⟩
 |some d=>
  rw[Ob]at ho
  refine⟨by simpa[Act.put]using hs,C1,ω1,hle,kI,m,?_⟩
  exact he.putAt (hs▸hf d Ob) hr ho
theorem q04 {o:Oper}{ao:qx}{e tmps ω w B b}(he:ak C ω w B e tmps)(hg:Eg ops o.guard=Ek ao.guard)(hb:mL e ao.guard=Ek b):Region.wanted o (yielded ops tmps)=b:=by
 unfold Region.wanted
 cases hog:o.guard with
 |none=>
  rw[hog]at hg
  simp only[Eg,Ek.injEq]at hg
  rw[←hg]at hb
  simp only[mL,Ek.injEq]at hb
  exact hb
 |some g=>
  obtain⟨j,want⟩:=g
  rw[hog]at hg
  simp only[Eg]at hg
  split at hg
  ·rename_i d hd
   have hgd:=Ek.inj hg
   rw[←hgd]at hb
   simp only[mL]at hb
   split at hb
   ·rename_i c ow hl
    cases hb
    obtain⟨v,h1,h2,_⟩:=he d _ hl
    have:=h2.cS
    subst this
    simp only[yielded,hd,N5,h1]
    cases c<;>cases want<;>rfl
   ·rename_i ow hl
    cases hb
    obtain⟨v,h1,h2,_⟩:=he d _ hl
    have hv:v=.tuple #[]:=by cases h2;rfl
    subst hv
    simp only[yielded,hd,N5,h1]
    rfl
   ·cases hb
  ·cases hg
theorem q6k {h md r d op n s y}(Hf:∀t x z,op≠.store t x z):(cw P h md r d op).getD .bad≠.du n s y:=by
 intro hc
 cases kJ:cw P h md r d op with
 |none=>rw[kJ]at hc;cases hc
 |some a=>
  rw[kJ]at hc
  simp only[Gv]at hc
  subst hc
  cases op<;>simp only[cw,cond_eq_ite]at kJ<;>(try exact Hf _ _ _ rfl)<;>(repeat' split at kJ)<;>(try split at kJ)<;>(try contradiction)<;>(try simp at kJ)<;>(try (split at kJ<;>simp at kJ))<;>(try (unfold Nz at kJ; (repeat' split at kJ)<;>simp at kJ))<;>(try (simp only[TJ,Ee]at kJ; (repeat' split at kJ)<;>simp at kJ))<;>(try (simp only[Aa]at kJ; (repeat' split at kJ)<;>(try contradiction)<;>(try simp at kJ)<;>(try (split at kJ<;>simp at kJ))))
theorem q7f (dS:qw P p)(hx:cg P xc){i:Nat}{o:Oper}{ao:qx}{st bF:qg}{a:Act}{w:World}{Q:Exit→Act→World→Prop}{K:Act→World→Prop}(hi:ops[i]?=Ek o)(hr:jq P nt ops o ao)(hs:iJ p xc h0 ao st=Ek bF)(bO:cX P w0 C0 C nt st a w)
  (hK:∀a' w',cX P w0 C0 C nt bF a' w'→K a' w'):wpOpIn (iM ρ) 0 P ops Q i K a w:=by
 obtain⟨cB,C1,ω1,hle,kI,m,he⟩:=bO
 unfold wpOpIn
 rw[hi]
 simp only[]
 unfold iJ at hs
 split at hs
 ·rename_i hg
  rw[q04 he hr.guard hg]
  simp only[if_true]
  split at hs
  ·rename_i res dU
   cases hs
   obtain⟨h,md,r,hop⟩:=hr.op
   cases mW:ao.op.gI with
   |some sv=>
    -- the one write of a variable
    have AQ:∃n y',ao.op=.du n sv y':=by
     cases xP:ao.op<;>rw[xP]at mW<;>simp[qv.gI]at mW
     subst mW;exact⟨_,_,rfl⟩
    obtain⟨n,y',xP⟩:=AQ
    have hdd:ao.dst=Ek sv:=by rw[hr.dst,xP];rfl
    rw[xP]at dU hop
    have bO:∃t x y,o.op=.store t x y∧yf P t=Ek n∧zp x=Ek (.tmp sv)∧zp y=Ek y':=by
     cases hoo:o.op<;>rw[hoo]at hop
     case store t x y=>
      simp only[cw]at hop
      split at hop
      ·rename_i n' x' yy hn h1 h2
       simp only[Gv]at hop
       cases lG:NA h x' with
       |none=>rw[lG]at hop;cases hop
       |some s'=>
        rw[lG]at hop
        simp only[qv.du.injEq]at hop
        obtain⟨rfl,rfl,rfl⟩:=hop
        refine⟨t,x,y,rfl,hn,?_,h2⟩
        unfold NA at lG
        split at lG
        ·split at lG
         ·cases lG;exact h1
         ·cases lG
        ·cases lG
      ·cases hop
     all_goals exact absurd hop (q6k (by simp))
    obtain⟨t,x,y,ho,hn,h1,h2⟩:=bO
    simp only[j8,zh]at dU
    split at dU
    ·rename_i mm v hl e2
     cases hk:(Gn mm n&&Gn v.flat.length n&&v.flat.all zd)with
     |false=>rw[hk]at dU;cases dU
     |true=>
      rw[hk]at dU
      simp only[cT,val,Ek.injEq]at dU
      subst dU
      simp only[En]at hk
      obtain⟨⟨k1,k2⟩,k3⟩:=hk
      obtain rfl:=Eu k1
      obtain⟨w',C',ω',bq,cy,m',e'⟩:=q88 m he ho hn h1 h2 hl e2 (Eu k2) k3
      refine⟨fun _ _=>trivial,?_⟩
      rw[Oper.semAt_eq _ _ _ (fun c hc=>by rw[ho]at hc;cases hc),bq]
      have Ob:o.dst=none:=(hr.He sv mW).1
      refine hK _ _ ?_
      rw[Ob,hdd]
      exact⟨cB,C',ω',aA.le_trans hle cy,kI.mono cy,m',e'⟩
    ·cases dU
   |none=>
   have rm:ao.dst=o.dst:=by rw[hr.dst];cases xP:ao.op<;>rw[xP]at mW<;>first|rfl|simp[qv.gI]at mW
   have bq:dW P C1 C0 w0 a (.slot (o.dst.getD 0)) st.env o w res:=by
    cases hc:cw P h md r o.dst o.op with
    |none=>rw[hc]at hop;simp only[N7]at hop;rw[←hop]at dU;simp[j8,zh]at dU
    |some cq=>rw[hc]at hop;simp only[Gv]at hop;subst hop;exact jtu dS hx m he mW hc dU
   have fin:∀v w',km P C0 w0 C1 a.tmps (.slot (o.dst.getD 0)) st.env res v w'→K (a.put o.dst v) w':=by
    rintro v w' ⟨C2,ω2,h1,h2,h3,h4,h5⟩
    exact hK _ _ (jcx (st:=st) rm hr.fits cB (kI.mono h1) (aA.le_trans hle h1) h2 h3 h4 h5)
   refine⟨fun _ _=>trivial,?_⟩
   rw[Oper.semAt_eq _ _ _ (fun c hc=>by
    rw[hc]at hop
    simp only[cw,N7]at hop
    rw[←hop]at dU
    simp[j8,zh]at dU)]
   rcases bq with⟨v,w',h1,h2⟩|⟨w',h1,h2⟩|⟨f,args,h1,h2⟩|⟨l,f,tmps,assign,body,h1,h2⟩
   ·rw[h1];exact fin v w' h2
   ·rw[h1];exact fin undef w' h2
   ·rw[h1]
    refine⟨fun h=>by simp[iM,Fence.wide]at h,CallsIn.mono (qw1.2 h2) ?_⟩
    rintro e w' ⟨v,rfl,gC⟩
    exact fin v w' gC
   ·rw[h1]
    have oB:RoundIn (iM ρ) 0 P l f tmps assign body w _:=h2
    refine⟨fun h=>by simp[iM,Fence.wide]at h,RoundIn.mono oB ?_⟩
    rintro e w' ⟨v,rfl,gC⟩
    exact fin v w' gC
  ·cases hs
 ·rename_i hg
  cases hs
  rw[q04 he hr.guard hg]
  simp only[Bool.false_eq_true,if_false]
  have rm:ao.dst=o.dst:=by
   cases mW:ao.op.gI with
   |none=>rw[hr.dst];cases xP:ao.op<;>rw[xP]at mW<;>first|rfl|simp[qv.gI]at mW
   |some sv=>
    have h1:=hr.guard
    rw[(hr.He sv mW).2]at h1
    simp only[Eg,Ek.injEq]at h1
    rw[←h1]at hg
    simp[mL]at hg
  exact⟨fun _ _=>trivial,hK _ _ (jcx (st:=st) rm hr.fits cB kI hle m he .undef (by simp))⟩
 ·cases hs
inductive jp (P:Program)(nt:Nat)(ops:Array Oper):List Nat→List qx→Prop where
 |nil:jp P nt ops [] []
 |cons {i:Nat} {o:Oper} {ao:qx} {l:List Nat} {lo:List qx} (hi:ops[i]?=Ek o) (h:jq P nt ops o ao) (t:jp P nt ops l lo):jp P nt ops (i::l) (ao::lo)
theorem q73 (dS:qw P p)(hx:cg P xc){Q bF}(hQ:∀a' w',cX P w0 C0 C nt bF a' w'→Q .normal a' w'):∀ {l:List Nat} {lo:List qx} {st:qg} {a:Act} {w:World},jp P nt ops l lo→fG p xc h0 lo st=Ek bF→cX P w0 C0 C nt st a w→wpOpsIn (iM ρ) 0 P ops Q l a w
 | [],_,st,a,w,.nil,hs,bO=>by
  simp only[fG,Ek.injEq]at hs
  subst hs
  exact hQ _ _ bO
 |i::l,_,st,a,w,.cons hi h t,hs,bO=>by
  simp only[fG]at hs
  split at hs
  ·rename_i s1 h1
   rw[wpOpsIn_cons]
   exact q7f dS hx hi h h1 bO fun a' w' gP=>q73 dS hx hQ t hs gP
  ·cases hs
theorem q1f {h id gV draw}:∀ {os:List Oper} {i:Nat} {rs Eh:List (Nat×Nat)} {l:List qx},F5 P h nt id ops gV draw os i rs=Ek (l,Eh)→(∀j,os[j]?=ops[i+j]?)→jp P nt ops (List.range' i os.length) l
 | [],i,rs,Eh,l,hc,_=>by
  simp only[F5,Ek.injEq,Prod.mk.injEq]at hc
  rw[←hc.1];exact .nil
 |o::os,i,rs,Eh,l,hc,hos=>by
  simp only[F5]at hc
  split at hc
  ·rename_i g hg
   split at hc
   ·rename_i cf
    split at hc
    ·rename_i l1 rs1 Hg
     simp only[Ek.injEq,Prod.mk.injEq]at hc
     rw[←hc.1]
     simp only[En]at cf
     obtain⟨⟨hf1,hf2⟩,hf3⟩:=cf
     refine .cons (o:=o) (by rw[←Nat.add_zero i,←hos 0];rfl) ⟨⟨h,jdd h id i,rs.length,rfl⟩,hg,rfl,fun d hd=>?_,fun d hd=>?_,fun d hd=>?_⟩ ?_
     ·rw[hd]at hf1
      simpa using hf1
     ·simp only at hd
      rw[hd]at hf2
      simpa using hf2
     ·simp only at hd
      rw[hd]at hf3
      simpa using hf3
     ·exact q1f Hg (fun j=>by rw[show i+1+j=i+(j+1)from by omega,←hos (j+1)];rfl)
    ·cases hc
   ·cases hc
  ·cases hc
theorem av.holes {ω w hp}(m:av P C ω w0 C0 hp w)(n:Nat):av P C ω w0 C0 (hp++Oh n .hole) w:=
 { m with
  lt:=fun b r hb=>⟨(m.lt b r hb).1,by rw[List.length_append];have:=(m.lt b r hb).2;omega⟩
  box:=fun b x r hx hb=>m.box b x r (by rw[List.getElem?_append_left (m.lt b r hb).2]at hx;exact hx) hb }
theorem q26 {l e s x}:yd s (pV e l)=Ek x→yd s e=Ek x:=by
 induction l with
 |nil=>simp[pV,yd]
 |cons t l ih=>
  intro h
  simp only[pV]at h
  split at h
  ·rename_i y hy
   by_cases bO:s=t
   ·subst bO;rw[EE]at h;rw[hy];exact h
   ·rw[N9 bO]at h;exact ih h
  ·exact ih h
theorem cX.keep {st a w k}(h:cX P w0 C0 C nt st a w):cX P w0 C0 C nt (zZ st k) a w:=by
 cases k with
 |none=>exact h
 |some l=>
  obtain⟨h1,C',ω',h3,h2,h4,h5⟩:=h
  exact⟨h1,C',ω',h3,h2,h4,fun s x hx=>h5 s x (q26 hx)⟩
theorem qu5 {listed:Array Bool}{i j d}:(listed.setIfInBounds i Ep).getD j d=if i=j∧j<listed.size then Ep else listed.getD j d:=by
 simp only[Ge,Array.getElem?_setIfInBounds]
 by_cases vT:i=j
 ·subst vT
  by_cases hl:i<listed.size
  ·simp[hl]
  ·simp[hl]
 ·simp[vT]
theorem jC.Hh {a b}(h:jC a b):jC b a:=⟨h.1.symm,fun s=>(h.2 s).symm⟩
def pick (full:List qx)(l:List Nat):List qx:=l.map fun i=>full.getD i default
theorem jp.get {l lo}(h:jp P nt ops l lo):l.length=lo.length∧∀k i,l[k]?=Ek i→∃o,ops[i]?=Ek o∧jq P nt ops o (lo.getD k default):=by
 induction h with
 |nil=>exact⟨rfl,by simp⟩
 |cons hi h t ih=>
  refine⟨by simp[ih.1],fun k i hk=>?_⟩
  cases k with
  |zero=>simp at hk;subst hk;exact⟨_,hi,h⟩
  |succ k=>simp at hk;obtain⟨o,h1,h2⟩:=ih.2 k i hk;exact⟨o,h1,by simpa using h2⟩
theorem jqy {full:List qx}{gV:Array Nat}(dS:qw P p)(hx:cg P xc){Q bF}(hQ:∀a' w',cX P w0 C0 C nt bF a' w'→Q .normal a' w')
  (rn:∀i o,ops[i]?=Ek o→jq P nt ops o (full.getD i default)) (Hj:∀i j,i<j→j<ops.size→(gV.getD j 0).testBit i=Ga→Ac (full.getD i default) (full.getD j default)=Ep)
  (Ve:∀j o i,ops[j]?=Ek o→i<ops.size→(gV.getD j 0).testBit i=Ep→∃e∈o.after,Region.binds .any e=Ep∧(e.on=i∨(gV.getD e.on 0).testBit i=Ep))
  (Hk:∀i o,ops[i]?=Ek o→∀e∈o.after,Region.binds .any e=Ep→e.on<i):
  ∀(fuel:Nat) (listed:Array Bool) (l:List Nat) (st s2:qg) (a:Act) (w:World),listed.size=ops.size→l.Pairwise (· < ·)→(∀i,i∈l↔i<ops.size∧listed.getD i Ep=Ga)→l.length≤fuel →
   (∀k i,i<ops.size→listed.getD k Ga=Ep→(gV.getD k 0).testBit i=Ep→listed.getD i Ga=Ep)→fG p xc h0 (pick full l) st=Ek s2→jC s2 bF→cX P w0 C0 C nt st a w→wpAnyIn (iM ρ) 0 P .any ops Q fuel listed a w:=by
 intro fuel
 induction fuel with
 |zero=>
  intro listed l st s2 a w cB fM cR hlen kK hs heq bO
  have hl:l=[]:=List.length_eq_zero_iff.1 (by omega)
  subst hl
  simp only[pick,O9,fG,Ek.injEq]at hs
  subst hs
  refine⟨?_,hQ _ _ (bO.eqv heq)⟩
  cases hr:Region.ready .any ops listed with
  |nil=>rfl
  |cons i rs=>
   have hi:i∈Region.ready .any ops listed:=by rw[hr];simp
   obtain⟨h1,o,ho,_⟩:=mem_ready.1 hi
   have:=(cR i).2 ⟨(Gy.1 ho).1,h1⟩
   cases this
 |succ fuel ih=>
  intro listed l st s2 a w cB fM cR hlen kK hs heq bO
  refine⟨fun hr=>?_,fun i hi=>?_⟩
  ·cases l with
   |nil=>
    simp only[pick,O9,fG,Ek.injEq]at hs
    subst hs
    exact hQ _ _ (bO.eqv heq)
   |cons i l=>
    exfalso
    obtain⟨h1,h2⟩:=(cR i).1 (by simp)
    have hi:i∈Region.ready .any ops listed:=by
     refine mem_ready.2 ⟨h2,ops[i],Gm h1,fun e he hb=>?_⟩
     have bh:=Hk i _ (Gm h1) e he hb
     have bu:e.on ∉ i::l:=fun hm=>by
      rcases Ov.1 hm with h|h
      ·omega
      ·have:=(Hw.1 fM).1 _ h;omega
     have h3:¬(listed.getD e.on Ep=Ga):=fun h=>bu ((cR e.on).2 ⟨by omega,h⟩)
     have rz:e.on<listed.size:=by omega
     simp only[Ge,Gm rz,Gv]at h3 ⊢
     simpa using h3
    rw[hr]at hi
    cases hi
  ·obtain⟨h1,o,ho,hall⟩:=mem_ready.1 hi
   have bh:=(Gy.1 ho).1
   have him:i∈l:=(cR i).2 ⟨bh,h1⟩
   obtain⟨l1,l2,rfl⟩:=List.append_of_mem him
   have Vf:∀k,k∈l1++i::l2→listed.getD k Ga=Ep→False:=fun k hk hl=>by
    obtain⟨k1,k2⟩:=(cR k).1 hk
    have rz:k<listed.size:=by omega
    simp only[Ge,Gm rz,Gv]at hl k2
    rw[hl]at k2;cases k2
   have hbi:∀k,k<ops.size→(gV.getD i 0).testBit k=Ep→listed.getD k Ga=Ep:=fun k hk hb=>by
    obtain⟨e,he,lf,h2|h2⟩:=Ve i o k ho hk hb
    ·rw[←h2];exact hall e he lf
    ·exact kK e.on k hk (hall e he lf) h2
   have hm:∀b∈pick full l1,Ac b (full.getD i default)=Ep:=by
    intro b hb
    obtain⟨k,hk,rfl⟩:=List.mem_map.1 hb
    have AR:k<i:=(Hu.1 fM).2.2 k hk i (by simp)
    refine Hj k i AR bh ?_
    cases Vg:(gV.getD i 0).testBit k with
    |false=>rfl
    |true=>exact(Vf k (by simp[hk]) (hbi k (by omega) Vg)).elim
   have Vh:pick full (l1++i::l2)=pick full l1++full.getD i default::pick full l2:=by simp[pick]
   rw[Vh]at hs
   obtain⟨t1,t2,g1,g2,g3⟩:=qw4 hm hs
   refine q7f dS hx ho (rn i o ho) g1 bO fun a' w' gP=>?_
   refine ih (listed.setIfInBounds i Ep) (l1++l2) t1 t2 a' w' (by simpa using cB) ?_ ?_ ?_ ?_ (by rw[show pick full (l1++l2)=pick full l1++pick full l2 from by simp[pick]];exact g2) (jC.trans (jC.Hh g3) heq) gP
   ·exact fM.sublist (St.append (St.refl _) (List.sublist_cons_self _ _))
   ·intro k
    rw[qu5]
    have Hl:i ∉ l1∧i ∉ l2:=by
     have h:=Hu.1 fM
     refine⟨fun hi1=>?_,fun hi2=>?_⟩
     ·have:=h.2.2 i hi1 i (by simp);omega
     ·have:=(Hw.1 h.2.1).1 i hi2;omega
    constructor
    ·intro hk
     have AR:k≠i:=fun h=>by
      subst h
      rcases Ho.1 hk with h|h
      ·exact Hl.1 h
      ·exact Hl.2 h
     have:=(cR k).1 (by rcases Ho.1 hk with h|h<;>simp[h])
     rw[if_neg (by omega)]
     exact this
    ·rintro ⟨k1,k2⟩
     split at k2
     ·cases k2
     ·rename_i bu
      have AR:k≠i:=fun h=>bu ⟨h.symm,by omega⟩
      have:=(cR k).2 ⟨k1,k2⟩
      rcases Ho.1 this with h|h
      ·simp[h]
      ·rcases Ov.1 h with h|h
       ·exact absurd h AR
       ·simp[h]
   ·simp at hlen ⊢;omega
   ·intro k j hj hk hb
    rw[qu5]at hk ⊢
    split
    ·rfl
    ·split at hk
     ·rename_i AU
      rw[←AU.1]at hb
      exact hbi j hj hb
     ·exact kK k j hj hk hb
theorem q7c {gV l}(h:TM gV l=Ep){i j}(vT:i<j)(hj:j<l.length)(hb:(gV.getD j 0).testBit i=Ga):Ac (l.getD i default) (l.getD j default)=Ep:=by
 unfold TM at h
 rw[Gr]at h
 have h1:=h (l[j],j) (Gk.2 (by simp[hj]))
 simp only[]at h1
 rw[Gr]at h1
 have h2:=h1 (l[i]'(by omega),i) (Gk.2 (by simp))
 simp only[vT,hb,decide_true,Hv,G5]at h2
 simp only[List.getD_eq_getElem?_getD,G2 hj,G2 (show i<l.length by omega),Gv]
 exact h2
theorem jbi {gV}(h:TP gV ops=Ep){j i o}(ho:ops[j]?=Ek o)(hi:i<ops.size)(hb:(gV.getD j 0).testBit i=Ep):∃e∈o.after,Region.binds .any e=Ep∧(e.on=i∨(gV.getD e.on 0).testBit i=Ep):=by
 unfold TP at h
 rw[Gr]at h
 have h1:=h (o,j) (Gk.2 (by simpa using ho))
 simp only[]at h1
 rw[Gr]at h1
 have h2:=h1 i (Ou.2 hi)
 rw[hb]at h2
 simp only[Hv,G5,Array.any_eq_true']at h2
 obtain⟨e,he,h3⟩:=h2
 simp only[En,Od,beq_iff_eq]at h3
 exact⟨e,he,h3.1,h3.2⟩
theorem q2z (h:TN ops=Ep){i o}(ho:ops[i]?=Ek o):∀e∈o.after,Region.binds .any e=Ep→e.on<i:=by
 intro e he hb
 unfold TN at h
 rw[Gr]at h
 have h1:=h (o,i) (Gk.2 (by simpa using ho))
 simp only[Array.all_eq_true']at h1
 have:=h1 e he
 simpa[hb]using this
theorem jdw (dS:qw P p)(hx:cg P xc){id:Nat}{draw:Bool}{ca h na l keep}(hc:F7 P h nt id ops draw=Ek ca)(dL:ca=.region na l keep){st bF x}(hs:mM p xc na l keep st=Ek (x,bF)){ω a w}
  (m:av P C ω w0 C0 st.heap w) (he:ak C ω w w0.heap.size st.env a.tmps) (cB:a.tmps.size=nt) (kI:Marks C w0.heap.size a.defers):
  (Code.region id ops draw).wpIn (iM ρ) 0 P (fun e a' w'=>e=Az x∧cX P w0 C0 C nt bF a' w') a w:=by
 subst dL
 unfold F7 at hc
 split at hc
 ·rename_i l' rs hl
  split at hc
  ·rename_i hd
   simp only[Ek.injEq,qe.region.injEq]at hc
   obtain⟨rfl,rfl,nR⟩:=hc
   unfold mM at hs
   split at hs
   ·rename_i s1 h1
    cases hs
    have xQ:jp P nt ops (List.range' 0 ops.size) l':=by
     have:=q1f hl (ops:=ops) (fun j=>by simp)
     simpa using this
    have hQ:∀a' w',cX P w0 C0 C nt s1 a' w'→(fun e a' w'=>e=Az .normal∧cX P w0 C0 C nt (zZ s1 keep) a' w') Exit.normal a' w':=fun a' w' bO=>⟨rfl,bO.keep⟩
    cases draw with
    |false=>
     refine wpIn_region ?_
     rw[List.range_eq_range']
     exact q73 dS hx hQ xQ h1 ⟨cB,C,ω,aA.le_refl C,kI,m.holes _,he⟩
    |true=>
     simp only[Hv,G5,En]at hd
     obtain⟨⟨d1,d2⟩,d3⟩:=hd
     refine wpIn_region_any dS.mixed ?_
     obtain⟨hlen,Vi⟩:=xQ.get
     have hlen':l'.length=ops.size:=by rw[←hlen];simp
     have rn:∀i o,ops[i]?=Ek o→jq P nt ops o (l'.getD i default):=by
      intro i o ho
      have hi:=(Gy.1 ho).1
      obtain⟨o',h2,h3⟩:=Vi i i (by rw[List.getElem?_range' hi];simp)
      rw[ho]at h2;cases h2;exact h3
     have Vh:pick l' (List.range ops.size)=l':=by
      apply Hm
      intro k
      simp only[pick,List.getElem?_map]
      by_cases hk:k<ops.size
      ·rw[List.getElem?_range hk]
       simp[G2 (show k<l'.length by omega)]
      ·rw[Hr (by simpa using hk),Hr (by omega)];rfl
     refine jqy (gV:=Region.before ops) (full:=l') dS hx hQ rn (fun i j h2 h3 h4=>q7c d1 h2 (by omega) h4) (fun j o i h2 h3 h4=>jbi d3 h2 h3 h4) (fun i o h2=>q2z d2 h2) ops.size _ (List.range ops.size) ⟨st.env,st.heap++Oh rs.length .hole⟩ s1 a _ (by simp) List.pairwise_lt_range ?_ (by simp) ?_ (by rw[Vh];exact h1) (jC.refl _) ⟨cB,C,ω,aA.le_refl C,kI,(m.holes _).ext (Ext.drew w),he.ext (Ext.drew w)⟩
     ·intro i
      simp only[Ou,Ge,Hn]
      constructor
      ·intro hi;exact⟨hi,by simp[hi]⟩
      ·exact fun hi=>hi.1
     ·intro k i hi hk
      simp only[Ge,Hn]at hk
      split at hk<;>simp at hk
   ·cases hs
  ·cases hc
 ·cases hc
end
end Go.Abs
