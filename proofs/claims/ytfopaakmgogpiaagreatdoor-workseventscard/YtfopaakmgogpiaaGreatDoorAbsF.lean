/- Two operations that may be exchanged. -/
import Derived.Test.YtfopaakmgogpiaaGreatDoorAbsE
import Derived.OrdersIn
set_option linter.unusedVariables false
set_option linter.unusedSimpArgs false
namespace Go.Abs
section
variable {p:qt}{xc:XC}{h0:Nat}{al:Option (List Nat)}
def Agree (l:List Nat)(e e':Env):Prop:=∀s∈l,ye s e=ye s e'
theorem Agree.app {l l':List Nat}{e e':Env}(h:Agree (l++l') e e'):Agree l e e'∧Agree l' e e':=
 ⟨fun s hs=>h s (List.mem_append_left _ hs),fun s hs=>h s (List.mem_append_right _ hs)⟩
theorem zp {e e':Env}{x:qh}(h:Agree (y5 x) e e'):zc e x=zc e' x:=by
 cases x with
 |tmp t=>simp only[zc,h t (by simp[y5])]
 |const v=>rfl
theorem qe5 {e e':Env}:∀ {l:List qh},Agree (qlv l) e e'→qa9 e l=qa9 e' l
 | [],_=>rfl
 |x::l,h=>by
  have h':Agree (y5 x++qlv l) e e':=by simpa[qlv]using h
  simp only[qa9,zp h'.app.1,qe5 h'.app.2]
theorem qha {e e':Env}{x:Option qh}(d n:Nat)(h:Agree (qo2 x) e e'):bnd e d n x=bnd e' d n x:=by
 cases x with
 |none=>rfl
 |some x=>simp only[bnd,zp (x:=x) h]
theorem qmd {e e':Env}{x:qh}(h:Agree (y5 x) e e'):kh e x=kh e' x:=by
 cases x with
 |tmp t=>simp only[kh,h t (by simp[y5])]
 |const v=>rfl
theorem qlw {e e':Env}:∀ {l:List (Nat×Nat×qh)},Agree (l.flatMap fun p=>y5 p.2.2) e e'→qa2 e l=qa2 e' l
 | [],_=>rfl
 |(i,n,x)::l,h=>by
  have h':Agree (y5 x++l.flatMap fun p=>y5 p.2.2) e e':=by simpa using h
  simp only[qa2,zp h'.app.1,qlw h'.app.2]
theorem qhx {e e':Env}{sz:Nat}:∀ {l:List (Nat×qh)},Agree (l.flatMap fun p=>y5 p.2) e e'→qac e sz l=qac e' sz l
 | [],_=>rfl
 |(i,x)::l,h=>by
  have h':Agree (y5 x++l.flatMap fun p=>y5 p.2) e e':=by simpa using h
  simp only[qac,zp h'.app.1,qhx h'.app.2]
theorem q4o {e e':Env}{h:j8}{op:qw}(ha:Agree op.reads e e'):j9 p xc h0 al e h op=j9 p xc h0 al e' h op:=by
 cases op with
 |move x=>simp only[j9,zh,zp (x:=x) ha]
 |take s=>simp only[j9,zh,ha s (by simp[qw.reads])]
 |pick c x y=>simp only[qw.reads]at ha;simp only[j9,zh,zp ha.app.1.app.1,zp ha.app.1.app.2,zp ha.app.2]
 |build z ps=>simp only[j9,zh,qlw (l:=ps) ha]
 |buildSlice sz n z ps=>simp only[j9,zh,qhx (l:=ps) ha]
 |nilCheck x=>simp only[j9,zh,zp (x:=x) ha]
 |valloc n=>rfl
 |vstore n s x=>
  simp only[qw.reads]at ha
  have h1:ye s e=ye s e':=ha s (by simp)
  have h2:Agree (y5 x) e e':=fun t ht=>ha t (by simp[ht])
  simp only[j9,zh,h1,zp h2]
 |vbox n x=>simp only[j9,zh,zp (x:=x) ha]
 |vload ag n x=>simp only[j9,zh,zp (x:=x) ha]
 |bin op x y=>simp only[qw.reads]at ha;simp only[j9,zh,zp ha.app.1,zp ha.app.2]
 |eqs ks n x y=>simp only[qw.reads]at ha;simp only[j9,zh,zp ha.app.1,zp ha.app.2]
 |beq n x y=>simp only[qw.reads]at ha;simp only[j9,zh,zp ha.app.1,zp ha.app.2]
 |nilEq k n x=>simp only[j9,zh,zp (x:=x) ha]
 |un op x=>simp only[j9,zh,zp (x:=x) ha]
 |conv k x=>simp only[j9,zh,zp (x:=x) ha]
 |convStr x=>simp only[j9,zh,zp (x:=x) ha]
 |field ag off n x=>simp only[j9,zh,zp (x:=x) ha]
 |index ag l n x i=>simp only[qw.reads]at ha;simp only[j9,zh,zp ha.app.1,zp ha.app.2]
 |strIndex x i=>simp only[qw.reads]at ha;simp only[j9,zh,zp ha.app.1,zp ha.app.2]
 |fieldAddr ag off n x=>simp only[j9,zh,zp (x:=x) ha]
 |indexAddr sz x i=>simp only[qw.reads]at ha;simp only[j9,zh,zp ha.app.1,zp ha.app.2]
 |indexArr ag l sz x i=>simp only[qw.reads]at ha;simp only[j9,zh,zp ha.app.1,zp ha.app.2]
 |slice sz x lo hi=>simp only[qw.reads]at ha;simp only[j9,zh,zp ha.app.1.app.1,qha _ _ ha.app.1.app.2,qha _ _ ha.app.2]
 |strSlice x lo hi=>simp only[qw.reads]at ha;simp only[j9,zh,zp ha.app.1.app.1,qha _ _ ha.app.1.app.2,qha _ _ ha.app.2]
 |sliceArr l sz x lo hi=>simp only[qw.reads]at ha;simp only[j9,zh,zp ha.app.1.app.1,qha _ _ ha.app.1.app.2,qha _ _ ha.app.2]
 |mkfunc f x y=>simp only[qw.reads]at ha;simp only[j9,zh,qe5 ha.app.1,qe5 ha.app.2]
 |len k x=>simp only[j9,zh,zp (x:=x) ha]
 |append r sz b x y=>
  simp only[qw.reads]at ha
  cases r with
  |none=>simp only[j9,zh,zp ha.app.1,zp ha.app.2,qmd ha.app.1]
  |some r=>simp only[j9,zj,zp ha.app.1,zp ha.app.2,qmd ha.app.1]
 |vapp r sz b x y=>simp only[qw.reads]at ha;simp only[j9,zj,zp ha.app.1,zp ha.app.2]
 |vlit r sz n z ps=>simp only[j9,zj,qhx (l:=ps) ha]
 |mkslice r sz b z n c=>
  simp only[qw.reads]at ha
  cases r with
  |none=>simp only[j9,zh,zp ha.app.1,zp ha.app.2]
  |some r=>simp only[j9,zj,zp ha.app.1,zp ha.app.2]
 |mx l=>simp only[j9,zh,qe5 (l:=l) ha]
 |mn l=>simp only[j9,zh,qe5 (l:=l) ha]
 |extract x i=>simp only[j9,zh,zp (x:=x) ha]
 |load ag n x=>simp only[j9,qaf,zp (x:=x) ha]
 |alloc r z=>rfl
 |bld r t e=>rfl
 |box r n x=>simp only[j9,zj,zp (x:=x) ha]
 |loadTake off x=>simp only[j9,zj,zp (x:=x) ha]
 |store n x y=>simp only[qw.reads]at ha;simp only[j9,zj,zp ha.app.1,zp ha.app.2,qmd ha.app.2]
 |mkmap r=>rfl
 |srange r x=>simp only[j9,zj,zp (x:=x) ha]
 |call md f l=>simp only[qw.reads]at ha;simp only[j9,qap,zp ha.app.1,qe5 ha.app.2]
 |lookup kd z ok x y=>simp only[qw.reads]at ha;simp only[j9,qaf,zp ha.app.1,zp ha.app.2]
 |mapUpdate kd x y z=>simp only[qw.reads]at ha;simp only[j9,zj,zp ha.app.1.app.1,zp ha.app.1.app.2,zp ha.app.2]
 |delete kd x y=>simp only[qw.reads]at ha;simp only[j9,zj,zp ha.app.1,zp ha.app.2]
 |copy sz x y=>simp only[qw.reads]at ha;simp only[j9,zj,zp ha.app.1,zp ha.app.2]
 |snext x=>simp only[j9,zj,zp (x:=x) ha]
 |bad=>rfl
def qq.at (r:qq)(h:j8):qq:={ r with heap:=h }
theorem qc4 {h h':j8}{x:qa}{r:qq}(hs:val h x=some r):r.heap=h∧val h' x=some (r.at h'):=by
 simp only[val,Option.some.injEq]at hs;subst hs;exact⟨rfl,rfl⟩
theorem jh9 (h:j8)(x:Option qa):qcj h x=(qcj [] x).map (·.at h):=by cases x<;>rfl
theorem qu2 {α β:Type}(c:Bool)(x y:Option α)(f:α→β):(bif c then x else y).map f=bif c then x.map f else y.map f:=by cases c<;>rfl
theorem qst (e:Env)(h:j8)(op:qw):zh e h op=(zh e [] op).map (·.at h):=by
 cases op with
 |append r sz b x y=>
  cases r with
  |some r=>rfl
  |none=>
   simp only[zh]
   repeat' split
   all_goals first
    |rfl
    |(simp only[qu2];repeat' split)<;>rfl
 |mkslice r sz b z n c=>
  cases r with
  |some r=>rfl
  |none=>
   simp only[zh]
   repeat' split
   all_goals first
    |rfl
    |(simp only[qu2];rfl)
 |_=>
  simp only[zh]
  repeat' split
  all_goals first
   |rfl
   |exact jh9 _ _
   |(simp only[qu2];first|rfl|(repeat' split)<;>rfl)
theorem qtx {e:Env}{h:j8}(h':j8){op:qw}{r:qq}(hs:zh e h op=some r):r.heap=h∧zh e h' op=some (r.at h'):=by
 rw[qst]at hs
 obtain⟨r0,h1,rfl⟩:=Option.map_eq_some_iff.1 hs
 refine⟨rfl,?_⟩
 rw[qst,h1]
 rfl
end
section
variable {p:qt}{xc:XC}{h0:Nat}{al:Option (List Nat)}
def nV:Option qn→Bool
 |some (.vec ..)=>false
 |some .hole=>false
 |_=>true
theorem qk9 {h:j8}{b:Nat}{cs:List (qa×Bool)}(hc:yn h b=some cs):nV h[b]?=true:=by
 unfold yn at hc
 split at hc
 ·rename_i h1;rw[h1];rfl
 ·cases hc
theorem qoa {h:j8}{b:Nat}{x:qn}(hb:y6 h b=some x)(hx:nV (some x)=true):nV h[b]?=true:=by
 unfold y6 at hb;rw[hb];exact hx
def vsz:qn→Option Nat
 | .vec sz _ _=>some sz
 |_=>none
def HB (h0:Nat)(al:Option (List Nat))(F:j8→Option qq)(h:j8)(r:qq):jq→Nat→Prop
 | .pure,_=>r.heap=h∧∀h',F h'=some (r.at h')
 | .read,_=>r.heap=h∧∀h':j8,(∀b,yv h0 al b=true→(qgq al=true→nV h[b]?=true)→h'[b]?=h[b]?)→F h'=some (r.at h')
 | .alloc,k=>∃x,newBox h0 h k x=some r.heap∧∀h' h3,newBox h0 h' k x=some h3→F h'=some (r.at h3)
 | .write,_=>∃b x,yv h0 al b=true∧nV h[b]?=true∧nV (some x)=true∧ym h b x=some r.heap∧∀h' h3:j8,h'[b]?=h[b]?→ym h' b x=some h3→F h'=some (r.at h3)
 | .take,k=>∃b cs v o,yv h0 al b=true∧h[b]?=some (.cells cs)∧cs[k]?=some (v,o)∧r.heap=h.set b (.cells (cs.set k (v,false))) ∧
   ∀(h':j8) (cs':List (qa×Bool)),h'[b]?=some (.cells cs')→cs'[k]?=some (v,o)→F h'=some (r.at (h'.set b (.cells (cs'.set k (v,false)))))
 | .frz,_=>False
 | .shr,_=>True
 | .vap,k=>∃q x y,(q=h0+k % 1000∧y=.hole∨vsz y=some (k / 1000))∧h[q]?=some y∧r.heap=h.set q x∧vsz x=some (k / 1000)∧∀h':j8,h'[q]?=some y→F h'=some (r.at (h'.set q x))
theorem qeg {h h':j8}{b:Nat}(hb:h'[b]?=h[b]?):yn h' b=yn h b:=by simp only[yn,hb]
theorem jap {e:Env}{h:j8}{op:qw}{r:qq}(hs:j9 p xc h0 al e h op=some r):HB h0 al (fun h=>j9 p xc h0 al e h op) h r op.cl op.rank:=by
 have pureCase:(∀h,j9 p xc h0 al e h op=zh e h op)→op.cl=.pure→HB h0 al (fun h=>j9 p xc h0 al e h op) h r op.cl op.rank:=by
  intro heq hcl
  rw[hcl]
  rw[heq]at hs
  exact⟨(qtx h hs).1,fun h'=>(heq h').trans (qtx h' hs).2⟩
 cases op with
 |load ag n x=>
  simp only[j9,qaf]at hs
  split at hs
  ·rename_i b o hv
   cases hk:yv h0 al b with
   |false=>simp[hk]at hs
   |true=>
    simp only[hk,cT]at hs
    split at hs
    ·rename_i cs hcs
     split at hs
     ·rename_i vs hvs
      have key:r.heap=h∧∀h':j8,yn h' b=yn h b→qaf h0 al e h' (.load ag n x)=some (r.at h'):=by
       cases ag with
       |true=>
        simp only[cT]at hs
        refine⟨(qc4 (h':=h) hs).1,fun h' hb=>?_⟩
        simp only[qaf,hv,hk,cT,hb,hcs,hvs]
        exact(qc4 (h':=h') hs).2
       |false=>
        simp only[cond_false]at hs
        split at hs
        ·refine⟨(qc4 (h':=h) hs).1,fun h' hb=>?_⟩
         simp only[qaf,hv,hk,cT,hb,hcs,hvs,cond_false]
         exact(qc4 (h':=h') hs).2
        ·cases hs
      exact⟨key.1,fun h' hag=>key.2 h' (qeg (hag b hk fun _=>qk9 hcs))⟩
     ·cases hs
    ·cases hs
  ·rename_i v hv
   cases hk:(Bool.xor ag v.isAgg||!(Nat.beq v.flat.length n))with
   |true=>simp[hk]at hs
   |false=>
    simp only[hk,cond_false]at hs
    refine⟨(qc4 (h':=h) hs).1,fun h' _=>?_⟩
    simp only[j9,qaf,hv,hk,cond_false]
    exact(qc4 (h':=h') hs).2
  ·rename_i b ver q hv
   cases hk:qgl h0 al b with
   |false=>simp[hk]at hs
   |true=>
    simp only[hk,cT]at hs
    have hkk:=hk
    simp only[qgl,Bool.and_eq_true,Bool.not_eq_true']at hkk
    split at hs
    ·rename_i sz ver' xs hbx
     have hgb:∀h':j8,(∀b,yv h0 al b=true→(qgq al=true→nV h[b]?=true)→h'[b]?=h[b]?)→y6 h' b=some (.vec sz ver' xs):=fun h' hag=>by
      unfold y6 at hbx ⊢;rw[hag b hkk.1 (fun ho=>by rw[hkk.2]at ho;cases ho),hbx]
     cases hk2:(Nat.beq ver ver'&&Nat.ble (q+n) (xs.flatMap qa.flat).length)with
     |false=>rw[hk2]at hs;cases hs
     |true=>
      rw[hk2]at hs
      simp only[cT]at hs
      cases ag with
      |true=>
       simp only[cT]at hs
       refine⟨(qc4 (h':=h) hs).1,fun h' hag=>?_⟩
       simp only[j9,qaf,hv,hk,cT,hgb h' hag,hk2]
       exact(qc4 (h':=h') hs).2
      |false=>
       simp only[cond_false]at hs
       split at hs
       ·rename_i z hz
        refine⟨(qc4 (h':=h) hs).1,fun h' hag=>?_⟩
        simp only[j9,qaf,hv,hk,cT,hgb h' hag,hk2,cond_false,hz]
        exact(qc4 (h':=h') hs).2
       ·cases hs
    ·cases hs
  ·cases hs
 |len k x=>exact pureCase (fun _=>rfl) rfl
 |alloc rk z=>
  simp only[j9,zj]at hs
  cases hk:z.all ze with
  |false=>simp[hk]at hs
  |true=>
   simp only[hk,cT]at hs
   split at hs
   ·rename_i h' hn
    have h1:=zx hs
    refine⟨_,by rw[h1];exact hn,fun g g3 hg=>?_⟩
    simp only[j9,zj,hk,cT]
    rw[show qw.rank (.alloc rk z)=rk from rfl]at hg
    rw[hg,h1];rfl
   ·cases hs
 |box rk n x=>
  simp only[j9,zj]at hs
  split at hs
  ·rename_i v hv
   cases hk:(Nat.beq v.flat.length n&&v.flat.all ze)with
   |false=>simp[hk]at hs
   |true=>
    simp only[hk,cT]at hs
    split at hs
    ·rename_i h' hn
     have h1:=zx hs
     refine⟨_,by rw[h1];exact hn,fun g g3 hg=>?_⟩
     simp only[j9,zj,hv,hk,cT]
     rw[show qw.rank (.box rk n x)=rk from rfl]at hg
     rw[hg,h1];rfl
    ·cases hs
  ·cases hs
 |bld rk t e'=>
  simp only[j9,zj]at hs
  split at hs
  ·rename_i h' hn
   have h1:=zx hs
   refine⟨_,by rw[h1];exact hn,fun g g3 hg=>?_⟩
   simp only[j9,zj]
   rw[show qw.rank (.bld rk t e')=rk from rfl]at hg
   rw[hg,h1];rfl
  ·cases hs
 |mkmap rk=>
  simp only[j9,zj]at hs
  split at hs
  ·rename_i h' hn
   have h1:=zx hs
   refine⟨_,by rw[h1];exact hn,fun g g3 hg=>?_⟩
   simp only[j9,zj]
   rw[show qw.rank (.mkmap rk)=rk from rfl]at hg
   rw[hg,h1];rfl
  ·cases hs
 |srange rk x=>
  simp only[j9,zj]at hs
  split at hs
  ·rename_i s hv
   split at hs
   ·rename_i h' hn
    have h1:=zx hs
    refine⟨_,by rw[h1];exact hn,fun g g3 hg=>?_⟩
    simp only[j9,zj,hv]
    rw[show qw.rank (.srange rk x)=rk from rfl]at hg
    rw[hg,h1];rfl
   ·cases hs
  ·cases hs
 |loadTake off x=>
  simp only[j9,zj]at hs
  split at hs
  ·rename_i b o hv
   cases hk:yv h0 al b&&qim off o with
   |false=>simp[hk]at hs
   |true=>
    simp only[hk,cT]at hs
    have hk':yv h0 al b=true:=by simp only[Bool.and_eq_true]at hk;exact hk.1
    split at hs
    ·rename_i cs hcs
     split at hs
     ·rename_i v ow hq
      split at hs
      ·rename_i h' hset
       cases hs
       have hset0:=hset
       unfold ym at hset0
       cases hlt:Nat.blt b h.length with
       |false=>simp[hlt]at hset0
       |true=>
        simp only[hlt,cT,Option.some.injEq]at hset0
        cases off with
        |none=>
         refine⟨b,_,hk',qk9 hcs,rfl,hset,fun g g3 hb hg=>?_⟩
         simp only[j9,zj,hv,hk,cT,qeg hb,hcs,hq,hg]
         rfl
        |some k=>
         have hko:k=o:=by
          simp only[Bool.and_eq_true,qim]at hk;exact Nat.eq_of_beq_eq_true hk.2
         subst hko
         have hhb:h[b]?=some (.cells cs):=by
          unfold yn at hcs
          split at hcs
          ·rename_i cs' h';cases hcs;exact h'
          ·cases hcs
         refine⟨b,cs,v,ow,hk',hhb,hq,hset0.symm,fun g cs' hg hc'=>?_⟩
         have hc':cs'[k]?=some (v,ow):=hc'
         have hlg:b<g.length:=(List.getElem?_eq_some_iff.1 hg).1
         have hbc:yn g b=some cs':=by simp only[yn,hg]
         have hsg:ym g b (.cells (cs'.set k (v,false)))=some (g.set b (.cells (cs'.set k (v,false)))):=by
          unfold ym;rw[Nat.blt_eq.mpr hlg];rfl
         simp only[j9,zj,hv,hk,cT,hbc,hc',hsg]
         rfl
      ·cases hs
     ·cases hs
    ·cases hs
  ·cases hs
 |store n x y=>
  simp only[j9,zj]at hs
  split at hs
  ·rename_i b o v hv hy
   cases hk:yv h0 al b with
   |false=>simp[hk]at hs
   |true=>
    simp only[hk,cT]at hs
    split at hs
    ·rename_i cs hcs
     split at hs
     ·rename_i t ht
      cases hk2:(Nat.beq n 1&&v.isList&&Nat.blt o cs.length)with
      |false=>simp[hk2]at hs
      |true=>
       simp only[hk2,cT]at hs
       split at hs
       ·rename_i h' hset
        cases hs
        refine⟨b,_,hk,qk9 hcs,rfl,hset,fun g g3 hb hg=>?_⟩
        simp only[j9,zj,hv,hy,hk,cT,qeg hb,hcs,ht,hk2,hg]
        rfl
       ·cases hs
     ·rename_i ht
      cases hk2:Nat.beq v.flat.length n with
      |false=>simp[hk2]at hs
      |true=>
       simp only[hk2,cT]at hs
       split at hs
       ·rename_i cs' hst
        split at hs
        ·rename_i h' hset
         have h1:=zx hs
         refine⟨b,_,hk,qk9 hcs,rfl,by rw[h1];exact hset,fun g g3 hb hg=>?_⟩
         simp only[j9,zj,hv,hy,hk,cT,qeg hb,hcs,ht,hk2,hst,hg,h1]
         rfl
        ·cases hs
       ·cases hs
    ·cases hs
  ·cases hs
 |call md f l=>
  cases md with
  |shr=>trivial
  |red=>trivial
  |frz rk=>
   simp only[j9,qap]at hs
   split at hs
   ·rename_i k first captured vs e1 e2
    cases hb:(first++vs++captured).isEmpty with
    |false=>
     rw[hb]at hs
     simp only[cond_false]at hs
     cases hb2:zu 0 (first++vs++captured)with
     |false=>rw[hb2]at hs;cases hs
     |true=>
      rw[hb2]at hs
      simp only[cT]at hs
      split at hs
      ·rename_i v o hci
       have goal:∃x,newBox h0 h rk x=some r.heap∧∀g g3,newBox h0 g rk x=some g3→qhc h0 g rk v o=some (r.at g3):=by
        unfold qhc at hs
        split at hs
        ·split at hs
         ·rename_i h' hn
          have h1:=zx hs
          refine⟨_,by rw[h1];exact hn,fun g g3 hg=>?_⟩
          simp only[qhc,hg,h1];rfl
         ·cases hs
        ·rename_i sz xs
         cases hb3:(xs.flatMap qa.flat).all qdo with
         |false=>rw[hb3]at hs;cases hs
         |true=>
          rw[hb3]at hs
          simp only[cT]at hs
          split at hs
          ·rename_i h' hn
           have h1:=zx hs
           refine⟨_,by rw[h1];exact hn,fun g g3 hg=>?_⟩
           simp only[qhc,hb3,cT,hg,h1];rfl
          ·cases hs
        ·cases hs
       obtain⟨x,g1,g2⟩:=goal
       refine⟨x,g1,fun g g3 hg=>?_⟩
       simp only[j9,qap,e1,e2,hci]
       rw[hb,hb2]
       exact g2 g g3 hg
      ·cases hs
    |true=>
     rw[hb]at hs
     simp only[cT]at hs
     split at hs
     ·rename_i es hm
      split at hs
      ·rename_i h' hn
       have h1:=zx hs
       refine⟨_,by rw[h1];exact hn,fun g g3 hg=>?_⟩
       simp only[j9,qap,e1,e2,hm]
       rw[hb]
       simp only[cT]
       rw[show qw.rank (.call (.frz rk) f l)=rk from rfl]at hg
       rw[hg,h1];rfl
      ·cases hs
     ·cases hs
   ·cases hs
   ·cases hs
  |iso=>
   simp only[j9,qap]at hs
   split at hs
   ·rename_i k first captured vs e1 e2
    cases hb:zu 0 (first++vs++captured)with
    |false=>rw[hb]at hs;cases hs
    |true=>
     rw[hb]at hs
     simp only[cT]at hs
     split at hs
     ·rename_i v o hci
      cases hs
      refine⟨rfl,fun h'=>?_⟩
      simp only[j9,qap,e1,e2,hci]
      rw[hb]
      rfl
     ·cases hs
   ·cases hs
   ·cases hs
 |append rk sz b x y=>
  cases rk with
  |none=>exact pureCase (fun _=>rfl) rfl
  |some rk=>
   simp only[j9,zj]at hs
   split at hs
   ·rename_i sz' vy e1 e2
    cases hk1:((kh e x).isSome&&Nat.beq sz sz')with
    |false=>simp[hk1]at hs
    |true=>
     simp only[hk1,cT]at hs
     split at hs
     ·rename_i ys hsrc
      cases hk2:(Nat.ble ys.length 1073741824&&Nat.ble b 4096&&Nat.blt 0 sz)with
      |false=>simp[hk2]at hs
      |true=>
       simp only[hk2,cT]at hs
       split at hs
       ·rename_i h' hn
        cases hs
        refine⟨_,hn,fun g g3 hg=>?_⟩
        simp only[j9,zj,e1,e2,hk1,hsrc,hk2,cT]
        rw[show qw.rank (.append (some rk) sz b x y)=rk from rfl]at hg
        rw[hg];rfl
       ·cases hs
     ·cases hs
   ·cases hs
 |vapp rk sz bt x y=>
  simp only[j9,zj]at hs
  split at hs
  ·rename_i sz0 vy e1 e2
   split at hs
   ·rename_i ys hsrc
    cases hk:(Nat.ble ys.length 1073741824&&Nat.ble bt 4096&&Nat.blt 0 sz&&!ys.isEmpty&&zu 0 ys&&Nat.blt rk 1000)with
    |false=>rw[hk]at hs;cases hs
    |true=>
     rw[hk]at hs
     simp only[cT]at hs
     split at hs
     ·rename_i h' hnew
      obtain rfl:=zx hs
      obtain⟨i1,i2⟩:=qaq hnew
      have hrk:rk<1000:=by simp only[Bool.and_eq_true]at hk;exact Nat.blt_eq.mp hk.2
      have m1:(rk+1000*sz) % 1000=rk:=by omega
      have m2:(rk+1000*sz) / 1000=sz:=by omega
      refine⟨h0+rk,.vec sz 0 ys,.hole,.inl ⟨by show _=h0+(rk+1000*sz) % 1000;rw[m1],rfl⟩,i1,i2,by show some sz=some ((rk+1000*sz) / 1000);rw[m2],fun g hg=>?_⟩
      simp only[j9,zj,e1,e2,hsrc,hk,cT,newBox,hg]
      rfl
     ·cases hs
   ·cases hs
  ·rename_i b ver len vy e1 e2
   split at hs
   ·rename_i sz' ver' xs hbx
    split at hs
    ·rename_i ys hsrc
     cases hk:(Nat.beq ver ver'&&Nat.beq sz sz'&&Nat.ble len xs.length&&Nat.ble (len+ys.length) 1073741824&&Nat.ble bt 4096&&Nat.blt 0 sz&&zu 0 ys&&Nat.blt rk 1000)with
     |false=>rw[hk]at hs;cases hs
     |true=>
      rw[hk]at hs
      simp only[cT]at hs
      split at hs
      ·rename_i h' hset
       obtain rfl:=zx hs
       have hk':=hk
       simp only[Bool.and_eq_true]at hk'
       obtain⟨⟨⟨⟨⟨⟨⟨_,k2⟩,_⟩,_⟩,_⟩,_⟩,_⟩,k8⟩:=hk'
       have hsz:=Nat.eq_of_beq_eq_true k2
       have hrk:rk<1000:=Nat.blt_eq.mp k8
       have m2:(rk+1000*sz) / 1000=sz:=by omega
       have hlt:b<h.length:=by unfold y6 at hbx;exact(List.getElem?_eq_some_iff.1 hbx).1
       have hh:h'=h.set b (.vec sz (ver+1) (xs.take len++ys)):=by
        unfold ym at hset
        rw[Nat.blt_eq.mpr hlt]at hset
        simpa using hset.symm
       refine⟨b,.vec sz (ver+1) (xs.take len++ys),.vec sz' ver' xs,.inr (by show some sz'=some ((rk+1000*sz) / 1000);rw[m2,hsz]),hbx,hh,by show some sz=some ((rk+1000*sz) / 1000);rw[m2],fun g hg=>?_⟩
       have hgb:y6 g b=some (.vec sz' ver' xs):=hg
       have hglt:b<g.length:=(List.getElem?_eq_some_iff.1 hg).1
       simp only[j9,zj,e1,e2,hgb,hsrc,hk,cT,ym,Nat.blt_eq.mpr hglt]
       rfl
      ·cases hs
    ·cases hs
   ·cases hs
  ·cases hs
 |vlit rk sz n z ps=>trivial
 |mkslice rk sz b z n c=>
  cases rk with
  |none=>exact pureCase (fun _=>rfl) rfl
  |some rk=>
   simp only[j9,zj]at hs
   split at hs
   ·rename_i n' c' e1 e2
    cases hk:(Nat.beq n' c'&&Nat.ble n' 1073741824&&Nat.ble b 4096&&Nat.beq z.length sz&&Nat.blt 0 sz&&z.all ze)with
    |false=>simp[hk]at hs
    |true=>
     simp only[hk,cT]at hs
     split at hs
     ·rename_i h' hn
      have h1:=zx hs
      refine⟨_,by rw[h1];exact hn,fun g g3 hg=>?_⟩
      simp only[j9,zj,e1,e2,hk,cT]
      rw[show qw.rank (.mkslice (some rk) sz b z n c)=rk from rfl]at hg
      rw[hg,h1];rfl
     ·cases hs
   ·cases hs
 |lookup kd z ok x y=>
  simp only[j9,qaf]at hs
  split at hs
  ·rename_i b kv e1 e2
   cases hk:yv h0 al b with
   |false=>simp[hk]at hs
   |true=>
    simp only[hk,cT]at hs
    split at hs
    ·rename_i es hb
     have hgb:∀h':j8,(∀b,yv h0 al b=true→(qgq al=true→nV h[b]?=true)→h'[b]?=h[b]?)→y6 h' b=some (.map es):=fun h' hag=>by
      have hnv:=qoa hb rfl
      unfold y6 at hb ⊢;rw[hag b hk fun _=>hnv,hb]
     split at hs
     ·rename_i i v hf
      refine⟨(qc4 (h':=h) hs).1,fun h' hag=>?_⟩
      simp only[j9,qaf,e1,e2,hk,cT,hgb h' hag,hf]
      exact(qc4 (h':=h') hs).2
     ·rename_i hf
      refine⟨(qc4 (h':=h) hs).1,fun h' hag=>?_⟩
      simp only[j9,qaf,e1,e2,hk,cT,hgb h' hag,hf]
      exact(qc4 (h':=h') hs).2
     ·cases hs
    ·cases hs
  ·rename_i kv e1 e2
   refine⟨(qc4 (h':=h) hs).1,fun h' hag=>?_⟩
   simp only[j9,qaf,e1,e2]
   exact(qc4 (h':=h') hs).2
  ·cases hs
 |mapUpdate kd x y z=>
  simp only[j9,zj]at hs
  split at hs
  ·rename_i b kv v e1 e2 e3
   cases hk:yv h0 al b with
   |false=>simp[hk]at hs
   |true=>
    simp only[hk,cT]at hs
    split at hs
    ·rename_i es hb
     have hgb:∀h':j8,h'[b]?=h[b]?→y6 h' b=some (.map es):=fun h' hag=>by
      unfold y6 at hb ⊢;rw[hag,hb]
     split at hs
     ·rename_i i u hf
      split at hs
      ·rename_i h' hset
       have h1:=zx hs
       refine⟨b,_,hk,qoa hb rfl,rfl,by rw[h1];exact hset,fun g g3 hb' hg=>?_⟩
       simp only[j9,zj,e1,e2,e3,hk,cT,hgb g hb',hf,hg,h1]
       rfl
      ·cases hs
     ·rename_i hf
      cases hl:Nat.ble es.length 1073741824 with
      |false=>simp[hl]at hs
      |true=>
       simp only[hl,cT]at hs
       split at hs
       ·rename_i h' hset
        have h1:=zx hs
        refine⟨b,_,hk,qoa hb rfl,rfl,by rw[h1];exact hset,fun g g3 hb' hg=>?_⟩
        simp only[j9,zj,e1,e2,e3,hk,cT,hgb g hb',hf,hl,hg,h1]
        rfl
       ·cases hs
     ·cases hs
    ·cases hs
  ·cases hs
 |delete kd x y=>
  simp only[j9,zj]at hs
  split at hs
  ·rename_i b kv e1 e2
   cases hk:yv h0 al b with
   |false=>simp[hk]at hs
   |true=>
    simp only[hk,cT]at hs
    split at hs
    ·rename_i es hb
     have hgb:∀h':j8,h'[b]?=h[b]?→y6 h' b=some (.map es):=fun h' hag=>by
      unfold y6 at hb ⊢;rw[hag,hb]
     split at hs
     ·rename_i rr hf
      split at hs
      ·rename_i h' hset
       have h1:=zx hs
       refine⟨b,_,hk,qoa hb rfl,rfl,by rw[h1];exact hset,fun g g3 hb' hg=>?_⟩
       simp only[j9,zj,e1,e2,hk,cT,hgb g hb',hf,hg,h1]
       rfl
      ·cases hs
     ·cases hs
    ·cases hs
  ·cases hs
 |copy sz x y=>
  simp only[j9,zj]at hs
  split at hs
  ·rename_i b o len vy e1 e2
   cases hk:yv h0 al b with
   |false=>simp[hk]at hs
   |true=>
    simp only[hk,cT]at hs
    split at hs
    ·rename_i cs hcs
     split at hs
     ·rename_i n us hsrc
      split at hs
      ·rename_i cs' hst
       cases hk2:Nat.beq us.length (n*sz)with
       |false=>simp[hk2]at hs
       |true=>
        simp only[hk2,cT]at hs
        split at hs
        ·rename_i h' hset
         have h1:=zx hs
         refine⟨b,_,hk,qk9 hcs,rfl,by rw[h1];exact hset,fun g g3 hb hg=>?_⟩
         simp only[j9,zj,e1,e2,hk,cT,qeg hb,hcs,hsrc,hst,hk2,hg,h1]
         rfl
        ·cases hs
      ·cases hs
     ·cases hs
    ·cases hs
  ·cases hs
 |snext x=>
  simp only[j9,zj]at hs
  split at hs
  ·rename_i b hv
   cases hk:yv h0 al b with
   |false=>simp[hk]at hs
   |true=>
    simp only[hk,cT]at hs
    split at hs
    ·rename_i s pos hb
     have hlt:b<h.length:=by unfold y6 at hb;exact(List.getElem?_eq_some_iff.1 hb).1
     cases hp:Nat.blt pos s.length with
     |true=>
      simp only[hp,cT]at hs
      split at hs
      ·rename_i h' hset
       have h1:=zx hs
       refine⟨b,_,hk,qoa hb rfl,rfl,by rw[h1];exact hset,fun g g3 hb' hg=>?_⟩
       have hgb:y6 g b=some (.iter s pos):=by unfold y6 at hb ⊢;rw[hb',hb]
       simp only[j9,zj,hv,hk,cT,hgb,hp,hg,h1]
       rfl
      ·cases hs
     |false=>
      simp only[hp,cond_false]at hs
      have h1:=zx hs
      have hself:h.set b (.iter s pos)=h:=by
       unfold y6 at hb
       z8 List.ext_getElem?
       intro k
       rw[List.getElem?_set]
       split
       ·rename_i hbk;subst hbk;first|exact hb.symm|rw[if_pos hlt,hb]
       ·rfl
      refine⟨b,.iter s pos,hk,qoa hb rfl,rfl,by rw[h1];unfold ym;rw[Nat.blt_eq.mpr hlt];simp[hself],fun g g3 hb' hg=>?_⟩
      have hgb:y6 g b=some (.iter s pos):=by unfold y6 at hb ⊢;rw[hb',hb]
      have hglt:b<g.length:=by unfold y6 at hgb;exact(List.getElem?_eq_some_iff.1 hgb).1
      have hgself:g3=g:=by
       unfold ym at hg
       rw[Nat.blt_eq.mpr hglt]at hg
       simp only[cT,Option.some.injEq]at hg
       rw[←hg]
       unfold y6 at hgb
       z8 List.ext_getElem?
       intro k
       rw[List.getElem?_set]
       split
       ·rename_i hbk;subst hbk;first|exact hgb.symm|rw[if_pos hglt,hgb]
       ·rfl
      simp only[j9,zj,hv,hk,cT,hgb,hp,cond_false,h1,hgself]
      rfl
    ·cases hs
  ·cases hs
 |_=>exact pureCase (fun _=>rfl) rfl
theorem qc6 {h h':j8}{b:Nat}{x:qn}(hs:ym h b x=some h'):b<h.length∧h'=h.set b x:=by
 unfold ym at hs
 cases hb:Nat.blt b h.length with
 |false=>simp[hb]at hs
 |true=>exact⟨Nat.blt_eq.mp hb,by simpa[hb]using hs.symm⟩
theorem qfk {h:j8}{b:Nat}{x:qn}(hb:b<h.length):ym h b x=some (h.set b x):=by
 unfold ym
 rw[Nat.blt_eq.mpr hb];rfl
theorem qg5 {h:j8}{k:Nat}{x:qn}(hh:h[h0+k]?=some .hole):newBox h0 h k x=some (h.set (h0+k) x):=by
 unfold newBox;rw[hh]
theorem qif {b k:Nat}(h:yv h0 al b=true)(hk:qez al k=false):b≠h0+k:=by
 intro hb
 subst hb
 cases al with
 |none=>simp[qez]at hk
 |some l=>
  simp only[yv,qez]at h hk
  have h1:Nat.blt (h0+k) h0=false:=by
   cases hh:Nat.blt (h0+k) h0 with
   |false=>rfl
   |true=>have:=Nat.blt_eq.mp hh;omega
  cases he:exl l with
  |false=>
   rw[he]at h hk
   simp only[cond_false]at h hk
   rw[h1,Bool.false_or,show h0+k-h0=k from by omega,hk]at h
   cases h
  |true=>
   rw[he]at h hk
   simp only[cT]at h hk
   cases l with
   |nil=>cases he
   |cons x l=>
    simp only[exq]at h
    cases hx:Nat.blt x 2000 with
    |true=>rw[hx]at h;simp only[cT,h1,Bool.and_false]at h;cases h
    |false=>
     rw[hx]at h
     simp only[cond_false]at h
     cases hx4:Nat.blt x 4000 with
     |false=>rw[hx4]at h;simp only[cond_false,h1]at h;cases h
     |true=>
      rw[hx4]at h
      simp only[cT]at h
      have h2:=Nat.eq_of_beq_eq_true h
      have h3:¬x<2000:=fun hh=>by rw[Nat.blt_eq.mpr hh]at hx;cases hx
      have h4:x=2000+k:=by omega
      rw[show(x::l).headD 0=x from rfl,h4,Nat.beq_refl]at hk
      cases hk
theorem qrr {l:List Nat}{x:Nat}(h:(!(l.contains x))=true):l.contains x=false:=by
 cases hc:l.contains x with
 |false=>rfl
 |true=>rw[hc]at h;cases h
theorem qpo {al1 al2:Option (List Nat)}{b b':Nat}(h:qj2 al1 al2=true)(h1:yv h0 al1 b=true)(h2:yv h0 al2 b'=true):b≠b':=by
 intro hb
 subst hb
 cases al1 with
 |none=>cases h
 |some l=>
  cases al2 with
  |none=>cases h
  |some m=>
   simp only[qj2,yv]at h h1 h2
   have inv:∀ {k:List Nat},exl k=true→Nat.blt (k.headD 0) 4000=true→exq h0 k b=true→(1000≤k.headD 0)∧((k.headD 0<2000∧b=k.headD 0-1000∧b<h0)∨(2000≤k.headD 0∧b=h0+(k.headD 0-2000))):=by
    intro k he h4 hq
    cases k with
    |nil=>cases he
    |cons x k=>
     refine⟨Nat.le_of_ble_eq_true he,?_⟩
     simp only[exq]at hq
     cases hx:Nat.blt x 2000 with
     |true=>
      rw[hx]at hq
      simp only[cT,Bool.and_eq_true]at hq
      exact .inl ⟨Nat.blt_eq.mp hx,Nat.eq_of_beq_eq_true hq.1,Nat.blt_eq.mp hq.2⟩
     |false=>
      rw[hx,show Nat.blt x 4000=true from h4]at hq
      simp only[cond_false,cT]at hq
      have h3:¬x<2000:=fun hh=>by rw[Nat.blt_eq.mpr hh]at hx;cases hx
      exact .inr ⟨by show 2000≤x;omega,Nat.eq_of_beq_eq_true hq⟩
   have old:∀ {k:List Nat} {r:Nat},b=h0+r→k.contains r=false→(Nat.blt b h0||k.contains (b-h0))=true→False:=by
    intro k r hbr hc hq
    have h3:Nat.blt b h0=false:=by
     cases hh:Nat.blt b h0 with
     |false=>rfl
     |true=>have:=Nat.blt_eq.mp hh;omega
    rw[h3,Bool.false_or,show b-h0=r by omega,hc]at hq
    cases hq
   cases hl:exl l with
   |true=>
    rw[hl]at h h1
    simp only[cT]at h h1
    cases hm:exl m with
    |true=>
     rw[hm]at h h2
     simp only[cT,Bool.and_eq_true]at h h2
     obtain⟨i1,i2⟩:=inv hl h.1.2 h1
     obtain⟨i3,i4⟩:=inv hm h.2 h2
     have hne:l.headD 0≠m.headD 0:=fun e=>by rw[e,Nat.beq_refl]at h;exact absurd h.1.1 (by simp)
     omega
    |false=>
     rw[hm]at h h2
     simp only[cond_false,Bool.and_eq_true]at h h2
     obtain⟨i1,i2⟩:=inv hl h.1.2 h1
     have h3:=Nat.le_of_ble_eq_true h.1.1
     exact old (by omega) (qrr h.2) h2
   |false=>
    rw[hl]at h h1
    simp only[cond_false,Bool.and_eq_true]at h h1
    obtain⟨⟨⟨h3,h4⟩,h6⟩,h5⟩:=h
    rw[h3]at h2
    simp only[cT]at h2
    obtain⟨i3,i4⟩:=inv h3 h6 h2
    have h4:=Nat.le_of_ble_eq_true h4
    exact old (by omega) (qrr h5) h1
theorem qzt {F:j8→Option qq}{h:j8}{r:qq}{k:Nat}(H:HB h0 al F h r .take k):HB h0 al F h r .write k:=by
 obtain⟨b,cs,v,o,hb,hc,hv,hs,h4⟩:=H
 have hlt:b<h.length:=(List.getElem?_eq_some_iff.1 hc).1
 refine⟨b,.cells (cs.set k (v,false)),hb,by rw[hc];rfl,rfl,by rw[hs];exact qfk hlt,fun h' h3 hh hset=>?_⟩
 rw[h4 h' cs (by rw[hh];exact hc) hv]
 obtain⟨_,s2⟩:=qc6 hset
 rw[s2]
theorem je0 {ca cb:jq}{ka kb:Nat}{ala alb:Option (List Nat)}{Fa Fb:j8→Option qq}{h:j8}{ra rb:qq}(hFb:Fb h=some rb)(hFa:Fa rb.heap=some ra)(Hb:HB h0 alb Fb h rb cb kb)(Ha:HB h0 ala Fa rb.heap ra ca ka)
  (hcb:cb=.read∨cb=.write∨cb=.take) (hca:ca=.read∨ca=.write∨ca=.take) (hap:qj2 alb ala=true):
  ∃h1,Fa h=some (ra.at h1)∧Fb h1=some (rb.at ra.heap):=by
 have hat:∀r:qq,r.at r.heap=r:=fun _=>rfl
 have wb:(cb=.read∧HB h0 alb Fb h rb .read kb)∨HB h0 alb Fb h rb .write kb:=by
  rcases hcb with rfl|rfl|rfl
  ·exact .inl ⟨rfl,Hb⟩
  ·exact .inr Hb
  ·exact .inr (qzt Hb)
 have wa:(ca=.read∧HB h0 ala Fa rb.heap ra .read ka)∨HB h0 ala Fa rb.heap ra .write ka:=by
  rcases hca with rfl|rfl|rfl
  ·exact .inl ⟨rfl,Ha⟩
  ·exact .inr Ha
  ·exact .inr (qzt Ha)
 rcases wb with⟨_,h1,h2⟩|⟨b,x,hb,_,_,hs,h2⟩
 ·rcases wa with⟨_,h3,h4⟩|⟨b',y,hb',_,_,hs',h4⟩
  ·exact⟨h,h4 h (fun b _ _=>by rw[h1]),by rw[h3,hat];exact hFb⟩
  ·rw[h1]at hs'
   obtain⟨s1,s2⟩:=qc6 hs'
   refine⟨ra.heap,by rw[hat,←hFa,h1],h2 _ (fun b hb _=>?_)⟩
   rw[s2,List.getElem?_set_ne (Ne.symm (qpo hap hb hb'))]
 ·obtain⟨s1,s2⟩:=qc6 hs
  rcases wa with⟨_,h3,h4⟩|⟨b',y,hb',_,_,hs',h4⟩
  ·refine⟨h,h4 h (fun b' hb' _=>?_),by rw[h3,hat];exact hFb⟩
   rw[s2,List.getElem?_set_ne (qpo hap hb hb')]
  ·obtain⟨s3,s4⟩:=qc6 hs'
   have hne:=qpo hap hb hb'
   rw[s2,List.length_set]at s3
   refine⟨h.set b' y,h4 _ _ (by rw[s2,List.getElem?_set_ne hne]) (qfk s3),h2 _ _ (by rw[List.getElem?_set_ne (Ne.symm hne)]) ?_⟩
   rw[qfk (by rw[List.length_set];exact s1),s4,s2,List.set_comm _ _ (Ne.symm hne)]
def q1l (ca cb:jq)(ka kb:Nat)(ala alb:Option (List Nat)):Prop:=
 (cb=.vap∧ca=.vap∧kb % 1000≠ka % 1000∧kb / 1000≠ka / 1000)∨(cb=.vap∧(ca=.read∨ca=.write∨ca=.take)∧qgq ala=true)∨((cb=.read∨cb=.write∨cb=.take)∧ca=.vap∧qgq alb=true)
theorem jrr {ca cb:jq}{ka kb:Nat}{ala alb:Option (List Nat)}{Fa Fb:j8→Option qq}{h:j8}{ra rb:qq}(hFb:Fb h=some rb)(hFa:Fa rb.heap=some ra)(Hb:HB h0 alb Fb h rb cb kb)(Ha:HB h0 ala Fa rb.heap ra ca ka)
  (hok:q1l ca cb ka kb ala alb):∃h1,Fa h=some (ra.at h1)∧Fb h1=some (rb.at ra.heap):=by
 have hat:∀r:qq,r.at r.heap=r:=fun _=>rfl
 have rdwr:∀ {c:jq} {k:Nat} {al:Option (List Nat)} {F:j8→Option qq} {g:j8} {r:qq},HB h0 al F g r c k→(c=.read∨c=.write∨c=.take)→HB h0 al F g r .read k∨HB h0 al F g r .write k:=by
  intro c k al F g r H hc
  rcases hc with rfl|rfl|rfl
  ·exact .inl H
  ·exact .inr H
  ·exact .inr (qzt H)
 have nvs:∀ {x:qn} {z:Nat},vsz x=some z→nV (some x)=false:=fun {x z} h=>by cases x<;>first|rfl|cases h
 rcases hok with⟨rfl,rfl,n1,n2⟩|⟨rfl,hca,hs⟩|⟨hcb,rfl,hs⟩
 ·obtain⟨q,x,y,hq,hy,hh,hx,hF⟩:=Hb
  obtain⟨q',x',y',hq',hy',hh',hx',hF'⟩:=Ha
  have hlt:q<h.length:=(List.getElem?_eq_some_iff.1 hy).1
  have hne:q≠q':=by
   intro he
   subst he
   rw[hh,List.getElem?_set_self hlt]at hy'
   cases hy'
   rcases hq' with⟨_,rfl⟩|h4
   ·cases hx
   ·rw[hx]at h4;exact n2 (Option.some.inj h4)
  rw[hh,List.getElem?_set_ne hne]at hy'
  refine⟨h.set q' x',hF' h hy',?_⟩
  rw[hF _ (by rw[List.getElem?_set_ne (Ne.symm hne)];exact hy),hh',hh,List.set_comm _ _ hne]
 ·obtain⟨q,x,y,hq,hy,hh,hx,hF⟩:=Hb
  have hlt:q<h.length:=(List.getElem?_eq_some_iff.1 hy).1
  -- the box that the append wrote is a vector now
  have hnew:nV rb.heap[q]?=false:=by rw[hh,List.getElem?_set_self hlt];exact nvs hx
  rcases rdwr Ha hca with⟨h3,h4⟩|⟨b,z,hb,hn,hnz,hz,h4⟩
  ·refine⟨h,h4 h (fun b hb hn=>?_),by rw[h3,hat];exact hFb⟩
   have hne:b≠q:=fun e=>by subst e;rw[hn hs]at hnew;cases hnew
   rw[hh,List.getElem?_set_ne (Ne.symm hne)]
  ·have hne:b≠q:=fun e=>by subst e;rw[hn]at hnew;cases hnew
   obtain⟨s1,s2⟩:=qc6 hz
   rw[hh,List.length_set]at s1
   refine⟨h.set b z,h4 _ _ (by rw[hh,List.getElem?_set_ne (Ne.symm hne)]) (qfk s1),?_⟩
   rw[hF _ (by rw[List.getElem?_set_ne hne];exact hy),s2,hh,List.set_comm _ _ hne]
 ·obtain⟨q,x,y,hq,hy,hh,hx,hF⟩:=Ha
  have hold:nV (some y)=false:=by
   rcases hq with⟨_,rfl⟩|h1
   ·rfl
   ·exact nvs h1
  rcases rdwr Hb hcb with⟨h3,h4⟩|⟨b,z,hb,hn,hnz,hz,h4⟩
  ·rw[h3]at hy hh
   refine⟨h.set q x,hF h hy,?_⟩
   rw[h4 (h.set q x) (fun b hb hn=>by
    have hne:b≠q:=fun e=>by subst e;rw[hy]at hn;rw[hold]at hn;exact absurd (hn hs) (by simp)
    rw[List.getElem?_set_ne (Ne.symm hne)]),hh]
  ·obtain⟨s1,s2⟩:=qc6 hz
   have hne:b≠q:=by
    intro e
    subst e
    rw[s2,List.getElem?_set_self s1]at hy
    rw[Option.some.inj hy,hold]at hnz
    cases hnz
   rw[s2,List.getElem?_set_ne hne]at hy
   refine⟨h.set q x,hF h hy,h4 _ _ (by rw[List.getElem?_set_ne (Ne.symm hne)]) ?_⟩
   rw[qfk (by rw[List.length_set];exact s1),hh,s2,List.set_comm _ _ (Ne.symm hne)]
theorem jki {ca cb:jq}{ka kb:Nat}{ala alb:Option (List Nat)}{Fa Fb:j8→Option qq}{h:j8}{ra rb:qq}(hFb:Fb h=some rb)(hFa:Fa rb.heap=some ra)(Hb:HB h0 alb Fb h rb cb kb)(Ha:HB h0 ala Fa rb.heap ra ca ka)
  (hok:cb=.pure∨ca=.pure∨(cb=.read∧ca=.read)∨(cb=.alloc∧ca=.alloc∧kb≠ka)∨(cb=.alloc∧(ca=.read∨ca=.write∨ca=.take)∧qez ala kb=false)∨((cb=.read∨cb=.write∨cb=.take)∧ca=.alloc∧qez alb ka=false)∨(cb=.take∧ca=.take∧kb≠ka)):
  ∃h1,Fa h=some (ra.at h1)∧Fb h1=some (rb.at ra.heap):=by
 have hat:∀r:qq,r.at r.heap=r:=fun _=>rfl
 rcases hok with rfl|rfl|⟨rfl,rfl⟩|⟨rfl,rfl,hne⟩|⟨rfl,hca,hal⟩|⟨hcb,rfl,hal⟩|⟨rfl,rfl,hne⟩
 ·obtain⟨h1,h2⟩:=Hb
  exact⟨ra.heap,by rw[hat,←hFa,h1],h2 _⟩
 ·obtain⟨h1,h2⟩:=Ha
  exact⟨h,h2 _,by rw[h1,hat];exact hFb⟩
 ·obtain⟨h1,h2⟩:=Hb
  obtain⟨h3,h4⟩:=Ha
  exact⟨h,h4 h (fun b _ _=>by rw[h1]),by rw[h3,hat];exact hFb⟩
 ·obtain⟨x,n1,n2⟩:=Hb
  obtain⟨y,n3,n4⟩:=Ha
  obtain⟨i1,i2⟩:=qaq n1
  obtain⟨i3,i4⟩:=qaq n3
  rw[i2,List.getElem?_set_ne (by omega)]at i3
  refine⟨h.set (h0+ka) y,n4 _ _ (qg5 i3),n2 _ _ ?_⟩
  rw[qg5 (by rw[List.getElem?_set_ne (by omega)];exact i1),i4,i2,List.set_comm _ _ (by omega)]
 ·obtain⟨x,n1,n2⟩:=Hb
  obtain⟨i1,i2⟩:=qaq n1
  rcases hca with rfl|rfl|rfl
  ·obtain⟨h3,h4⟩:=Ha
   refine⟨h,h4 h (fun b hb _=>?_),by rw[h3,hat];exact hFb⟩
   rw[i2,List.getElem?_set_ne (Ne.symm (qif hb hal))]
  ·obtain⟨b,y,hb,_,_,hs,h4⟩:=Ha
   obtain⟨s1,s2⟩:=qc6 hs
   have hne:=qif hb hal
   rw[i2,List.length_set]at s1
   refine⟨h.set b y,h4 _ _ (by rw[i2,List.getElem?_set_ne (Ne.symm hne)]) (qfk s1),n2 _ _ ?_⟩
   rw[qg5 (by rw[List.getElem?_set_ne hne];exact i1),s2,i2,List.set_comm _ _ hne]
  ·obtain⟨b,cs,v,o,hb,hc,hv,hs,h4⟩:=Ha
   have hne:=qif hb hal
   rw[i2,List.getElem?_set_ne (Ne.symm hne)]at hc
   refine⟨_,h4 _ _ hc hv,n2 _ _ ?_⟩
   rw[qg5 (by rw[List.getElem?_set_ne hne];exact i1),hs,i2,List.set_comm _ _ hne]
 ·obtain⟨y,n3,n4⟩:=Ha
  obtain⟨i3,i4⟩:=qaq n3
  rcases hcb with rfl|rfl|rfl
  ·obtain⟨h1,h2⟩:=Hb
   refine⟨ra.heap,by rw[hat,←hFa,h1],h2 _ (fun b hb _=>?_)⟩
   rw[i4,h1,List.getElem?_set_ne (Ne.symm (qif hb hal))]
  ·obtain⟨b,x,hb,_,_,hs,h2⟩:=Hb
   obtain⟨s1,s2⟩:=qc6 hs
   have hne:=qif hb hal
   rw[s2,List.getElem?_set_ne hne]at i3
   refine⟨h.set (h0+ka) y,n4 _ _ (qg5 i3),h2 _ _ (by rw[List.getElem?_set_ne (Ne.symm hne)]) ?_⟩
   rw[qfk (by rw[List.length_set];exact s1),i4,s2,List.set_comm _ _ (Ne.symm hne)]
  ·obtain⟨b,cs,v,o,hb,hc,hv,hs,h2⟩:=Hb
   have hne:=qif hb hal
   rw[hs,List.getElem?_set_ne hne]at i3
   refine⟨h.set (h0+ka) y,n4 _ _ (qg5 i3),?_⟩
   rw[h2 _ cs (by rw[List.getElem?_set_ne (Ne.symm hne)];exact hc) hv,i4,hs,List.set_comm _ _ (Ne.symm hne)]
 ·obtain⟨b,cs,v,o,hb,hc,hv,hs,h2⟩:=Hb
  obtain⟨b',cs',v',o',hb',hc',hv',hs',h4⟩:=Ha
  have hlt:b<h.length:=(List.getElem?_eq_some_iff.1 hc).1
  by_cases hbb:b'=b
  ·subst hbb
   rw[hs,List.getElem?_set_self hlt]at hc'
   cases hc'
   rw[List.getElem?_set_ne hne]at hv'
   refine⟨h.set b' (.cells (cs.set ka (v',false))),h4 h cs hc hv',?_⟩
   rw[h2 _ (cs.set ka (v',false)) (by rw[List.getElem?_set_self hlt]) (by rw[List.getElem?_set_ne (Ne.symm hne)];exact hv),hs',hs]
   simp only[List.set_set]
   rw[List.set_comm _ _ hne]
  ·rw[hs,List.getElem?_set_ne (Ne.symm hbb)]at hc'
   refine⟨h.set b' (.cells (cs'.set ka (v',false))),h4 h cs' hc' hv',?_⟩
   rw[h2 _ cs (by rw[List.getElem?_set_ne hbb];exact hc) hv,hs',hs,List.set_comm _ _ hbb]
end
section
variable {p:qt}{xc:XC}{h0:Nat}
def eff (p:qt)(xc:XC)(h0:Nat)(o:qu)(e:Env)(h:j8):Option qq:=
 match qcb e o.guard with
 |some true=>j9 p xc h0 o.al e h o.op
 |some false=>some ⟨.undef,false,none,h⟩
 |none=>none
def qe1 (o:qu)(e:Env)(r:qq):Env:=qdq (k9 e r.strip) o.dst r.v r.own
theorem qeh (o:qu)(st:qg):qao p xc h0 o st=(eff p xc h0 o st.env st.heap).map fun r=>⟨qe1 o st.env r,r.heap⟩:=by
 unfold qao eff
 cases hg:qcb st.env o.guard with
 |none=>rfl
 |some b=>
  cases b with
  |false=>rfl
  |true=>
   simp only[]
   cases j9 p xc h0 o.al st.env st.heap o.op<;>rfl
theorem q0n {e e':Env}{g:Option (Nat×Bool)}(h:Agree (match g with|some g=>[g.1]|none=>[]) e e'):qcb e g=qcb e' g:=by
 cases g with
 |none=>rfl
 |some g=>simp only[qcb,h g.1 (by simp)]
theorem qql {o:qu}{e e':Env}{h:j8}(ha:Agree o.reads e e'):eff p xc h0 o e h=eff p xc h0 o e' h:=by
 have h1:Agree o.op.reads e e':=(Agree.app ha).1
 have h2:=(Agree.app ha).2
 simp only[eff,q0n h2,q4o h1]
theorem q43 {h0 r:Nat}{h:j8}{v:qa}{o:Bool}{res:qq}(hs:qhc h0 h r v o=some res):res.strip=none:=by
 unfold qhc at hs
 simp only[Bool.cond_eq_ite,val]at hs
 repeat' split at hs
 all_goals first
  |(cases hs;done)
  |(cases hs;rfl)
theorem q06 {al:Option (List Nat)}{e:Env}{h:j8}{op:qw}{r:qq}(hs:j9 p xc h0 al e h op=some r){s:Nat}(hr:r.strip=some s):s∈op.strips:=by
 have own:∀ {x:qh},kh e x=some s→s∈y5 x:=by
  intro x h
  obtain⟨rfl,_⟩:=qjc h
  simp[y5]
 have vnone:∀ {x:qa},val h x=some r→False:=fun hv=>by rw[zx hv]at hr;cases hr
 have vonone:∀ {x:Option qa},qcj h x=some r→False:=fun hv=>by obtain⟨_,_,h1⟩:=qd0 hv;rw[h1]at hr;cases hr
 cases op with
 |take t=>
  simp only[j9,zh]at hs
  split at hs
  ·cases hs;simp at hr;simp[qw.strips,hr]
  ·cases hs
 |append rk sz b x y=>
  cases rk with
  |some rk=>
   simp only[j9,zj,Bool.cond_eq_ite]at hs
   repeat' split at hs
   all_goals first
    |(cases hs;done)
    |(cases hs;exact own hr)
  |none=>
   simp only[j9,zh,Bool.cond_eq_ite]at hs
   repeat' split at hs
   all_goals first
    |(cases hs;done)
    |(cases hs;exact own hr)
 |store n x y=>
  simp only[j9,zj,Bool.cond_eq_ite]at hs
  repeat' split at hs
  all_goals first
   |(cases hs;done)
   |exact(vnone hs).elim
   |(rename_i ht _ _ _ _;cases hs;simp only[Option.some.injEq]at hr;subst hr;exact own ht)
   |(unfold val at hs;cases hs;cases hr;done)
   |skip
 |mkslice rk sz b z n c=>
  cases rk with
  |some rk=>
   simp only[j9,zj,Bool.cond_eq_ite]at hs
   repeat' split at hs
   all_goals first
    |(cases hs;done)
    |exact(vnone hs).elim
    |(unfold val at hs;cases hs;cases hr;done)
  |none=>
   simp only[j9,zh,Bool.cond_eq_ite]at hs
   repeat' split at hs
   all_goals first
    |(cases hs;done)
    |(cases hs;cases hr;done)
 |call md f l=>
  cases md<;>simp only[j9,qap,Bool.cond_eq_ite]at hs
  all_goals
   repeat' split at hs
  all_goals first
   |(cases hs;done)
   |exact(vnone hs).elim
   |(cases hs;cases hr;done)
   |(rw[q43 hs]at hr;cases hr;done)
 |_=>
  simp only[j9,zh,qaf,zj,Bool.cond_eq_ite]at hs
  repeat' split at hs
  all_goals first
   |(cases hs;done)
   |exact(vnone hs).elim
   |exact(vonone hs).elim
   |(cases hs;cases hr;done)
   |(unfold val at hs;cases hs;cases hr;done)
theorem qyc {o:qu}{e:Env}{h:j8}{r:qq}(hs:eff p xc h0 o e h=some r){s:Nat}(hr:r.strip=some s):s∈o.op.strips:=by
 unfold eff at hs
 split at hs
 ·exact q06 hs hr
 ·cases hs;cases hr
 ·cases hs
theorem qef {s:Nat}{x:qa×Bool}{e:Env}:ye s ((s,x)::e)=some x:=by
 simp only[ye,Nat.beq_refl,cT]
theorem qhu {s t:Nat}{x:qa×Bool}{e:Env}(h:s≠t):ye s ((t,x)::e)=ye s e:=by
 have:Nat.beq t s=false:=by
  cases hb:Nat.beq t s with
  |false=>rfl
  |true=>exact absurd (Nat.eq_of_beq_eq_true hb).symm h
 simp only[ye,this,cond_false]
theorem qji {s:Nat}{e:Env}{x:Option Nat}(h:∀t,x=some t→s≠t):ye s (k9 e x)=ye s e:=by
 cases x with
 |none=>rfl
 |some t=>
  simp only[k9]
  split
  ·exact qhu (h t rfl)
  ·rfl
theorem quc {s:Nat}{e e':Env}{x:Option Nat}(h:ye s e=ye s e'):ye s (k9 e x)=ye s (k9 e' x):=by
 cases x with
 |none=>exact h
 |some t=>
  by_cases hst:s=t
  ·subst hst
   simp only[k9]
   rw[←h]
   cases hl:ye s e with
   |none=>simp only[];rw[hl,←h,hl]
   |some y=>simp only[];rw[qef,qef]
  ·rw[qji (fun u hu=>by cases hu;exact hst),qji (fun u hu=>by cases hu;exact hst)]
   exact h
theorem ql8 {s:Nat}{e:Env}{d:Option Nat}{v:qa}{o:Bool}(h:∀t,d=some t→s≠t):ye s (qdq e d v o)=ye s e:=by
 cases d with
 |none=>rfl
 |some t=>exact qhu (h t rfl)
theorem qyp {s:Nat}{e e':Env}{d:Option Nat}{v:qa}{o:Bool}(h:ye s e=ye s e'):ye s (qdq e d v o)=ye s (qdq e' d v o):=by
 cases d with
 |none=>exact h
 |some t=>
  by_cases hst:s=t
  ·subst hst;simp only[qdq];rw[qef,qef]
  ·rw[ql8 (fun u hu=>by cases hu;exact hst),ql8 (fun u hu=>by cases hu;exact hst)];exact h
theorem qgv {o:qu}{s:Nat}{e e':Env}{r:qq}(h:ye s e=ye s e'):ye s (qe1 o e r)=ye s (qe1 o e' r):=qyp (quc h)
theorem qdg {o:qu}{s:Nat}{e:Env}{r:qq}(hr:∀t,r.strip=some t→t∈o.op.strips)(h:s ∉ o.writes):ye s (qe1 o e r)=ye s e:=by
 unfold qe1
 rw[ql8,qji]
 ·intro t ht hst
  exact h (List.mem_append_right _ (hst▸hr t ht))
 ·intro t ht hst
  exact h (List.mem_append_left _ (by rw[ht,hst];simp))
theorem jal {o:qu}{e:Env}{r:qq}{h:j8}:qe1 o e (r.at h)=qe1 o e r:=rfl
def Eqv (a b:qg):Prop:=a.heap=b.heap∧∀s,ye s a.env=ye s b.env
theorem Eqv.refl (a:qg):Eqv a a:=⟨rfl,fun _=>rfl⟩
theorem Eqv.trans {a b c:qg}(h:Eqv a b)(k:Eqv b c):Eqv a c:=⟨h.1.trans k.1,fun s=>(h.2 s).trans (k.2 s)⟩
theorem qyh {o:qu}{a b a':qg}(h:Eqv a b)(hs:qao p xc h0 o a=some a'):∃b',qao p xc h0 o b=some b'∧Eqv a' b':=by
 rw[qeh]at hs
 obtain⟨r,hr,rfl⟩:=Option.map_eq_some_iff.1 hs
 rw[qql (e':=b.env) (fun s _=>h.2 s),h.1]at hr
 refine⟨⟨qe1 o b.env r,r.heap⟩,by rw[qeh,hr];rfl,rfl,fun s=>qgv (h.2 s)⟩
theorem qxp:∀ {l:List qu} {a b a':qg},Eqv a b→qb3 p xc h0 l a=some a'→∃b',qb3 p xc h0 l b=some b'∧Eqv a' b'
 | [],a,b,a',h,hs=>by simp only[qb3,Option.some.injEq]at hs ⊢;subst hs;exact⟨b,rfl,h⟩
 |o::l,a,b,a',h,hs=>by
  simp only[qb3]at hs
  split at hs
  ·rename_i a1 h1
   obtain⟨b1,k1,k2⟩:=qyh h h1
   obtain⟨b',k3,k4⟩:=qxp k2 hs
   exact⟨b',by simp only[qb3,k1,k3],k4⟩
  ·cases hs
theorem jb9 {o:qu}{e:Env}{h:j8}{r:qq}(hs:eff p xc h0 o e h=some r):∃c k,HB h0 o.al (eff p xc h0 o e) h r c k∧(c=.pure∨(c=o.op.cl∧k=o.op.rank)):=by
 unfold eff at hs
 cases hg:qcb e o.guard with
 |none=>rw[hg]at hs;cases hs
 |some b=>
  cases b with
  |false=>
   rw[hg]at hs
   cases hs
   exact⟨.pure,0,⟨rfl,fun h'=>by simp only[eff,hg];rfl⟩,.inl rfl⟩
  |true=>
   rw[hg]at hs
   have:=jap hs
   have heq:(fun h=>j9 p xc h0 o.al e h o.op)=eff p xc h0 o e:=by
    funext h;simp only[eff,hg]
   rw[heq]at this
   exact⟨_,_,this,.inr ⟨rfl,rfl⟩⟩
theorem q7y {a b:qu}(h:jag a b=true):a.op.cl=.pure∨b.op.cl=.pure∨a.op.cl=.frz∨b.op.cl=.frz∨(a.op.cl=.read∧b.op.cl=.read)∨(a.op.cl=.alloc∧b.op.cl=.alloc∧a.op.rank≠b.op.rank) ∨
  (a.op.cl=.alloc∧(b.op.cl=.read∨b.op.cl=.write∨b.op.cl=.take)∧qez b.al a.op.rank=false)∨((a.op.cl=.read∨a.op.cl=.write∨a.op.cl=.take)∧b.op.cl=.alloc∧qez a.al b.op.rank=false)∨(a.op.cl=.take∧b.op.cl=.take∧a.op.rank≠b.op.rank)∨((a.op.cl=.read∨a.op.cl=.write∨a.op.cl=.take)∧(b.op.cl=.read∨b.op.cl=.write∨b.op.cl=.take)∧qj2 a.al b.al=true)∨q1l b.op.cl a.op.cl b.op.rank a.op.rank b.al a.al:=by
 unfold jag at h
 rw[Bool.or_eq_true]at h
 rcases h with h|h
 ·simp only[Bool.and_eq_true]at h
  obtain⟨⟨h1,h2⟩,h3⟩:=h
  have hb:∀ {c:jq},c.box=true→c=.read∨c=.write∨c=.take:=fun {c} hc=>by cases c<;>first|(cases hc;done)|simp
  simp only[hb h1,hb h2,h3,and_self,or_true,true_or]
 unfold q1l
 cases ha:a.op.cl<;>cases hb:b.op.cl<;>simp_all
theorem qjn {a b:List Nat}(h:qlb a b=true){s:Nat}(hs:s∈a):s ∉ b:=by
 unfold qlb at h
 rw[List.all_eq_true]at h
 have:=h s hs
 simpa using this
theorem zd1 {a b:qu}{st s1 s2:qg}(hm:qid b a=true)(h1:qao p xc h0 b st=some s1)(h2:qao p xc h0 a s1=some s2):
  ∃t1 t2,qao p xc h0 a st=some t1∧qao p xc h0 b t1=some t2∧Eqv s2 t2:=by
 rw[qeh]at h1
 obtain⟨rb,hb,rfl⟩:=Option.map_eq_some_iff.1 h1
 rw[qeh]at h2
 obtain⟨ra,ha,rfl⟩:=Option.map_eq_some_iff.1 h2
 simp only[qid,Bool.and_eq_true]at hm
 obtain⟨⟨⟨hc,d1⟩,d2⟩,d3⟩:=hm
 have sb:∀t,rb.strip=some t→t∈b.op.strips:=fun t ht=>qyc hb ht
 have sa:∀t,ra.strip=some t→t∈a.op.strips:=fun t ht=>qyc ha ht
 -- the later one reads nothing that the earlier one writes
 have ha':eff p xc h0 a st.env rb.heap=some ra:=by
  rw[←ha]
  refine qql fun s hs=>(qdg sb ?_).symm
  exact fun hw=>qjn d1 hw hs
 obtain⟨cb,kb,Hb,ob⟩:=jb9 hb
 obtain⟨ca,ka,Ha,oa⟩:=jb9 ha'
 have hap:((cb=.read∨cb=.write∨cb=.take)∧(ca=.read∨ca=.write∨ca=.take)∧qj2 b.al a.al=true)∨(cb=.pure∨ca=.pure∨(cb=.read∧ca=.read)∨(cb=.alloc∧ca=.alloc∧kb≠ka)∨(cb=.alloc∧(ca=.read∨ca=.write∨ca=.take)∧qez a.al kb=false)∨((cb=.read∨cb=.write∨cb=.take)∧ca=.alloc∧qez b.al ka=false)∨(cb=.take∧ca=.take∧kb≠ka))∨q1l ca cb ka kb a.al b.al:=by
  rcases ob with rfl|⟨rfl,rfl⟩
  ·exact .inr (.inl (.inl rfl))
  rcases oa with rfl|⟨rfl,rfl⟩
  ·exact .inr (.inl (.inr (.inl rfl)))
  rcases q7y hc with h|h|h|h|h|h|h|h|h|h|h
  ·exact .inr (.inl (.inl h))
  ·exact .inr (.inl (.inr (.inl h)))
  ·rw[h]at Hb;exact Hb.elim
  ·rw[h]at Ha;exact Ha.elim
  ·exact .inr (.inl (.inr (.inr (.inl h))))
  ·exact .inr (.inl (.inr (.inr (.inr (.inl h)))))
  ·exact .inr (.inl (.inr (.inr (.inr (.inr (.inl h))))))
  ·exact .inr (.inl (.inr (.inr (.inr (.inr (.inr (.inl h)))))))
  ·exact .inr (.inl (.inr (.inr (.inr (.inr (.inr (.inr h)))))))
  ·exact .inl h
  ·exact .inr (.inr h)
 have hsw:∃h1,eff p xc h0 a st.env st.heap=some (ra.at h1)∧eff p xc h0 b st.env h1=some (rb.at ra.heap):=by
  rcases hap with⟨q1,q2,q3⟩|hok|hok
  ·exact je0 hb ha' Hb Ha q1 q2 q3
  ·exact jki hb ha' Hb Ha hok
  ·exact jrr hb ha' Hb Ha hok
 obtain⟨h3,k1,k2⟩:=hsw
 have k2':eff p xc h0 b (qe1 a st.env (ra.at h3)) h3=some (rb.at ra.heap):=by
  rw[←k2]
  refine qql fun s hs=>qdg (fun t ht=>sa t ht) ?_
  exact fun hw=>qjn d3 hw hs
 refine⟨⟨qe1 a st.env (ra.at h3),h3⟩,⟨qe1 b (qe1 a st.env (ra.at h3)) (rb.at ra.heap),ra.heap⟩,by rw[qeh,k1];rfl,by rw[qeh];simp only[k2'];rfl,rfl,fun s=>?_⟩
 simp only[jal]
 by_cases hw:s∈a.writes
 ·have hnb:s ∉ b.writes:=fun h=>qjn d2 h hw
  rw[qdg sb hnb]
  exact qgv (qdg sb hnb)
 ·rw[qdg sa hw]
  exact qgv (qdg sa hw).symm
theorem qv9:∀ {l1 l2:List qu} {a:qu} {st s2:qg},(∀b∈l1,qid b a=true)→qb3 p xc h0 (l1++a::l2) st=some s2 →
  ∃t1 t2,qao p xc h0 a st=some t1∧qb3 p xc h0 (l1++l2) t1=some t2∧Eqv s2 t2
 | [],l2,a,st,s2,_,hs=>by
  simp only[List.nil_append,qb3]at hs
  split at hs
  ·rename_i t1 h1;exact⟨t1,s2,h1,hs,Eqv.refl _⟩
  ·cases hs
 |b::l1,l2,a,st,s2,hm,hs=>by
  simp only[List.cons_append,qb3]at hs
  split at hs
  ·rename_i s h1
   obtain⟨u1,u2,h2,h3,h4⟩:=qv9 (fun c hc=>hm c (by simp[hc])) hs
   obtain⟨t1,t2,h5,h6,h7⟩:=zd1 (hm b (by simp)) h1 h2
   obtain⟨u3,h8,h9⟩:=qxp h7 h3
   exact⟨t1,u3,h5,by simp only[List.cons_append,qb3,h6,h8],h4.trans h9⟩
  ·cases hs
end
def StOk (P:Program)(w0:World)(C0 C:Ctx)(nt:Nat)(st:qg)(a:Act)(w:World):Prop:=
 a.tmps.size=nt∧∃C' ω',C.le C'∧Marks C' w0.heap.size a.defers∧MInv P C' ω' w0 C0 st.heap w∧EnvRel C' ω' w w0.heap.size st.env a.tmps
structure js (P:Program)(nt:Nat)(ops:Array Oper)(o:Oper)(ao:qu):Prop where
 op:∃h md r,(cOp P h md r o.dst o.op).getD .bad=ao.op
 guard:qms ops o.guard=some ao.guard
 dst:ao.dst=ao.op.dstOf o.dst
 fits:∀d,o.dst=some d→d<nt
 vfits:∀d,ao.op.vdst=some d→d<nt
 vone:∀d,ao.op.vdst=some d→o.dst=none∧o.guard=none
section
variable {P:Program}{p:qt}{xc:XC}{C C0:Ctx}{w0:World}{nt h0:Nat}{ops:Array Oper}{ρ:Option Nat}
theorem StOk.eqv {st st':qg}{a:Act}{w:World}(h:StOk P w0 C0 C nt st a w)(he:Eqv st st'):StOk P w0 C0 C nt st' a w:=by
 obtain⟨h1,C',ω',h3,h2,h4,h5⟩:=h
 exact⟨h1,C',ω',h3,h2,he.1▸h4,fun s x hx=>h5 s x (by rw[he.2 s];exact hx)⟩
theorem EnvRel.putAt {ω:Nat→Option Loc}{w:World}{B d:Nat}{e:Env}{tmps:Array Value}{v:qa}{u:Value}{o:Bool}(he:EnvRel C ω w B e tmps)(hd:d<tmps.size)(hr:Rep C v u)(ho:o=true→OwnV C ω w B (.slot d) v u):EnvRel C ω w B ((d,v,o)::e) (tmps.setIfInBounds d u):=by
 intro s x hx
 by_cases hsd:s=d
 ·subst hsd
  rw[qef]at hx
  cases hx
  exact⟨u,by simp[hd],hr,ho⟩
 ·rw[qhu hsd]at hx
  obtain⟨y,h1,h2,h3⟩:=he s x hx
  exact⟨y,by rw[Array.getElem?_setIfInBounds_ne (Ne.symm hsd)];exact h1,h2,h3⟩
theorem jbb {ao:qu}{st:qg}{a:Act}{w:World}{C1:Ctx}{ω1:Nat→Option Loc}{e:Env}{h:j8}{v:qa}{u:Value}{own:Bool}{o:Oper}(hd:ao.dst=o.dst)(hf:∀d,o.dst=some d→d<nt)(hs:a.tmps.size=nt)(hdf:Marks C1 w0.heap.size a.defers)(hle:C.le C1)(m:MInv P C1 ω1 w0 C0 h w)(he:EnvRel C1 ω1 w w0.heap.size e a.tmps)(hr:Rep C1 v u)(ho:own=true→OwnV C1 ω1 w w0.heap.size (.slot (o.dst.getD 0)) v u):
  StOk P w0 C0 C nt ⟨qdq e ao.dst v own,h⟩ (a.put o.dst u) w:=by
 rw[hd]
 cases hod:o.dst with
 |none=>exact⟨hs,C1,ω1,hle,hdf,m,he⟩
 |some d=>
  rw[hod]at ho
  refine⟨by simpa[Act.put]using hs,C1,ω1,hle,hdf,m,?_⟩
  exact he.putAt (hs▸hf d hod) hr ho
theorem q0e {o:Oper}{ao:qu}{e:Env}{tmps:Array Value}{ω:Nat→Option Loc}{w:World}{B:Nat}{b:Bool}(he:EnvRel C ω w B e tmps)(hg:qms ops o.guard=some ao.guard)(hb:qcb e ao.guard=some b):Region.wanted o (yielded ops tmps)=b:=by
 unfold Region.wanted
 cases hog:o.guard with
 |none=>
  rw[hog]at hg
  simp only[qms,Option.some.injEq]at hg
  rw[←hg]at hb
  simp only[qcb,Option.some.injEq]at hb
  exact hb
 |some g=>
  obtain⟨j,want⟩:=g
  rw[hog]at hg
  simp only[qms]at hg
  split at hg
  ·rename_i d hd
   have hgd:=Option.some.inj hg
   rw[←hgd]at hb
   simp only[qcb]at hb
   split at hb
   ·rename_i c ow hl
    cases hb
    obtain⟨v,h1,h2,_⟩:=he d _ hl
    have:=h2.bool_inv
    subst this
    simp only[yielded,hd,Option.bind_some,h1]
    cases c<;>cases want<;>rfl
   ·rename_i ow hl
    cases hb
    obtain⟨v,h1,h2,_⟩:=he d _ hl
    have hv:v=.tuple #[]:=by cases h2;rfl
    subst hv
    simp only[yielded,hd,Option.bind_some,h1]
    rfl
   ·cases hb
  ·cases hg
theorem q53 {h:qb}{md:jc}{r:Nat}{d:Option Nat}{op:Op}{n s:Nat}{y:qh}(hno:∀t x z,op≠.store t x z):(cOp P h md r d op).getD .bad≠.vstore n s y:=by
 intro hc
 cases hco:cOp P h md r d op with
 |none=>rw[hco]at hc;cases hc
 |some a=>
  rw[hco]at hc
  simp only[Option.getD_some]at hc
  subst hc
  cases op<;>simp only[cOp,cond_eq_ite]at hco<;>(try exact hno _ _ _ rfl)<;>(repeat' split at hco)<;>(try split at hco)<;>(try contradiction)<;>(try simp at hco)<;>(try (split at hco<;>simp at hco))<;>(try (unfold q09 at hco; (repeat' split at hco)<;>simp at hco))<;>(try (simp only[jhy,cEq]at hco; (repeat' split at hco)<;>simp at hco))<;>(try (simp only[qo8]at hco; (repeat' split at hco)<;>(try contradiction)<;>(try simp at hco)<;>(try (split at hco<;>simp at hco))))
theorem q56 (hp':qx P p)(hx:CodeOk P xc){i:Nat}{o:Oper}{ao:qu}{st st':qg}{a:Act}{w:World}{Q:Exit→Act→World→Prop}{K:Act→World→Prop}(hi:ops[i]?=some o)(hr:js P nt ops o ao)(hs:qao p xc h0 ao st=some st')(hst:StOk P w0 C0 C nt st a w)
  (hK:∀a' w',StOk P w0 C0 C nt st' a' w'→K a' w'):wpOpIn (qbi ρ) 0 P ops Q i K a w:=by
 obtain⟨hsz,C1,ω1,hle,hdf,m,he⟩:=hst
 unfold wpOpIn
 rw[hi]
 simp only[]
 unfold qao at hs
 split at hs
 ·rename_i hg
  rw[q0e he hr.guard hg]
  simp only[if_true]
  split at hs
  ·rename_i res hres
   cases hs
   obtain⟨h,md,r,hop⟩:=hr.op
   cases hvd:ao.op.vdst with
   |some sv=>
    -- the one write of a variable
    have hshape:∃n y',ao.op=.vstore n sv y':=by
     cases hao:ao.op<;>rw[hao]at hvd<;>simp[qw.vdst]at hvd
     subst hvd;exact⟨_,_,rfl⟩
    obtain⟨n,y',hao⟩:=hshape
    have hdd:ao.dst=some sv:=by rw[hr.dst,hao];rfl
    rw[hao]at hres hop
    have hst:∃t x y,o.op=.store t x y∧yh P t=some n∧zq x=some (.tmp sv)∧zq y=some y':=by
     cases hoo:o.op<;>rw[hoo]at hop
     case store t x y=>
      simp only[cOp]at hop
      split at hop
      ·rename_i n' x' yy hn h1 h2
       simp only[Option.getD_some]at hop
       cases hvt:q8z h x' with
       |none=>rw[hvt]at hop;cases hop
       |some s'=>
        rw[hvt]at hop
        simp only[qw.vstore.injEq]at hop
        obtain⟨rfl,rfl,rfl⟩:=hop
        refine⟨t,x,y,rfl,hn,?_,h2⟩
        unfold q8z at hvt
        split at hvt
        ·split at hvt
         ·cases hvt;exact h1
         ·cases hvt
        ·cases hvt
      ·cases hop
     all_goals exact absurd hop (q53 (by simp))
    obtain⟨t,x,y,ho,hn,h1,h2⟩:=hst
    simp only[j9,zh]at hres
    split at hres
    ·rename_i mm v hl e2
     cases hk:(Nat.beq mm n&&Nat.beq v.flat.length n&&v.flat.all ze)with
     |false=>rw[hk]at hres;cases hres
     |true=>
      rw[hk]at hres
      simp only[cT,val,Option.some.injEq]at hres
      subst hres
      simp only[Bool.and_eq_true]at hk
      obtain⟨⟨k1,k2⟩,k3⟩:=hk
      obtain rfl:=Nat.eq_of_beq_eq_true k1
      obtain⟨w',C',ω',hrun,hle',m',e'⟩:=jad m he ho hn h1 h2 hl e2 (Nat.eq_of_beq_eq_true k2) k3
      refine⟨fun _ _=>trivial,?_⟩
      rw[Oper.semAt_eq _ _ _ (fun c hc=>by rw[ho]at hc;cases hc),hrun]
      have hod:o.dst=none:=(hr.vone sv hvd).1
      refine hK _ _ ?_
      rw[hod,hdd]
      exact⟨hsz,C',ω',Ctx.le_trans hle hle',hdf.mono hle',m',e'⟩
    ·cases hres
   |none=>
   have hdst0:ao.dst=o.dst:=by rw[hr.dst];cases hao:ao.op<;>rw[hao]at hvd<;>first|rfl|simp[qw.vdst]at hvd
   have hrun:qad P C1 C0 w0 a (.slot (o.dst.getD 0)) st.env o w res:=by
    cases hc:cOp P h md r o.dst o.op with
    |none=>rw[hc]at hop;simp only[Option.getD_none]at hop;rw[←hop]at hres;simp[j9,zh]at hres
    |some aop=>rw[hc]at hop;simp only[Option.getD_some]at hop;subst hop;exact jqz hp' hx m he hvd hc hres
   have fin:∀v w',kg P C0 w0 C1 a.tmps (.slot (o.dst.getD 0)) st.env res v w'→K (a.put o.dst v) w':=by
    rintro v w' ⟨C2,ω2,h1,h2,h3,h4,h5⟩
    exact hK _ _ (jbb (st:=st) hdst0 hr.fits hsz (hdf.mono h1) (Ctx.le_trans hle h1) h2 h3 h4 h5)
   refine⟨fun _ _=>trivial,?_⟩
   rw[Oper.semAt_eq _ _ _ (fun c hc=>by
    rw[hc]at hop
    simp only[cOp,Option.getD_none]at hop
    rw[←hop]at hres
    simp[j9,zh]at hres)]
   rcases hrun with⟨v,w',h1,h2⟩|⟨w',h1,h2⟩|⟨f,args,h1,h2⟩|⟨l,f,tmps,assign,body,h1,h2⟩
   ·rw[h1];exact fin v w' h2
   ·rw[h1];exact fin undef w' h2
   ·rw[h1]
    refine⟨fun h=>by simp[qbi,Fence.wide]at h,CallsIn.mono (qxh.2 h2) ?_⟩
    rintro e w' ⟨v,rfl,hpost⟩
    exact fin v w' hpost
   ·rw[h1]
    have h2':RoundIn (qbi ρ) 0 P l f tmps assign body w _:=h2
    refine⟨fun h=>by simp[qbi,Fence.wide]at h,RoundIn.mono h2' ?_⟩
    rintro e w' ⟨v,rfl,hpost⟩
    exact fin v w' hpost
  ·cases hs
 ·rename_i hg
  cases hs
  rw[q0e he hr.guard hg]
  simp only[Bool.false_eq_true,if_false]
  have hdst0:ao.dst=o.dst:=by
   cases hvd:ao.op.vdst with
   |none=>rw[hr.dst];cases hao:ao.op<;>rw[hao]at hvd<;>first|rfl|simp[qw.vdst]at hvd
   |some sv=>
    have h1:=hr.guard
    rw[(hr.vone sv hvd).2]at h1
    simp only[qms,Option.some.injEq]at h1
    rw[←h1]at hg
    simp[qcb]at hg
  exact⟨fun _ _=>trivial,hK _ _ (jbb (st:=st) hdst0 hr.fits hsz hdf hle m he .undef (by simp))⟩
 ·cases hs
inductive jo (P:Program)(nt:Nat)(ops:Array Oper):List Nat→List qu→Prop where
 |nil:jo P nt ops [] []
 |cons {i:Nat} {o:Oper} {ao:qu} {l:List Nat} {lo:List qu} (hi:ops[i]?=some o) (h:js P nt ops o ao) (t:jo P nt ops l lo):jo P nt ops (i::l) (ao::lo)
theorem q57 (hp':qx P p)(hx:CodeOk P xc){Q:Exit→Act→World→Prop}{st':qg}(hQ:∀a' w',StOk P w0 C0 C nt st' a' w'→Q .normal a' w'):∀ {l:List Nat} {lo:List qu} {st:qg} {a:Act} {w:World},jo P nt ops l lo→qb3 p xc h0 lo st=some st'→StOk P w0 C0 C nt st a w→wpOpsIn (qbi ρ) 0 P ops Q l a w
 | [],_,st,a,w,.nil,hs,hst=>by
  simp only[qb3,Option.some.injEq]at hs
  subst hs
  exact hQ _ _ hst
 |i::l,_,st,a,w,.cons hi h t,hs,hst=>by
  simp only[qb3]at hs
  split at hs
  ·rename_i s1 h1
   rw[wpOpsIn_cons]
   exact q56 hp' hx hi h h1 hst fun a' w' hst'=>q57 hp' hx hQ t hs hst'
  ·cases hs
theorem q0a {h:qb}{id:Nat}{bef:Array Nat}{draw:Bool}:∀ {os:List Oper} {i:Nat} {rs rs':List (Nat×Nat)} {l:List qu},q2s P h nt id ops bef draw os i rs=some (l,rs')→(∀j,os[j]?=ops[i+j]?)→jo P nt ops (List.range' i os.length) l
 | [],i,rs,rs',l,hc,_=>by
  simp only[q2s,Option.some.injEq,Prod.mk.injEq]at hc
  rw[←hc.1];exact .nil
 |o::os,i,rs,rs',l,hc,hos=>by
  simp only[q2s]at hc
  split at hc
  ·rename_i g hg
   split at hc
   ·rename_i hfit
    split at hc
    ·rename_i l1 rs1 hrest
     simp only[Option.some.injEq,Prod.mk.injEq]at hc
     rw[←hc.1]
     simp only[Bool.and_eq_true]at hfit
     obtain⟨⟨hf1,hf2⟩,hf3⟩:=hfit
     refine .cons (o:=o) (by rw[←Nat.add_zero i,←hos 0];rfl) ⟨⟨h,jby h id i,rs.length,rfl⟩,hg,rfl,fun d hd=>?_,fun d hd=>?_,fun d hd=>?_⟩ ?_
     ·rw[hd]at hf1
      simpa using hf1
     ·simp only at hd
      rw[hd]at hf2
      simpa using hf2
     ·simp only at hd
      rw[hd]at hf3
      simpa using hf3
     ·exact q0a hrest (fun j=>by rw[show i+1+j=i+(j+1)from by omega,←hos (j+1)];rfl)
    ·cases hc
   ·cases hc
  ·cases hc
theorem MInv.holes {ω:Nat→Option Loc}{w:World}{hp:j8}(m:MInv P C ω w0 C0 hp w)(n:Nat):MInv P C ω w0 C0 (hp++List.replicate n .hole) w:=
 { m with
  lt:=fun b r hb=>⟨(m.lt b r hb).1,by rw[List.length_append];have:=(m.lt b r hb).2;omega⟩
  box:=fun b x r hx hb=>m.box b x r (by rw[List.getElem?_append_left (m.lt b r hb).2]at hx;exact hx) hb }
theorem q3m {l:List Nat}{e:Env}{s:Nat}{x:qa×Bool}:ye s (qen e l)=some x→ye s e=some x:=by
 induction l with
 |nil=>simp[qen,ye]
 |cons t l ih=>
  intro h
  simp only[qen]at h
  split at h
  ·rename_i y hy
   by_cases hst:s=t
   ·subst hst;rw[qef]at h;rw[hy];exact h
   ·rw[qhu hst]at h;exact ih h
  ·exact ih h
theorem StOk.keep {st:qg}{a:Act}{w:World}{k:Option (List Nat)}(h:StOk P w0 C0 C nt st a w):StOk P w0 C0 C nt (qkd st k) a w:=by
 cases k with
 |none=>exact h
 |some l=>
  obtain⟨h1,C',ω',h3,h2,h4,h5⟩:=h
  exact⟨h1,C',ω',h3,h2,h4,fun s x hx=>h5 s x (q3m hx)⟩
theorem qt7 {listed:Array Bool}{i j:Nat}{d:Bool}:(listed.setIfInBounds i true).getD j d=if i=j∧j<listed.size then true else listed.getD j d:=by
 simp only[Array.getD_eq_getD_getElem?,Array.getElem?_setIfInBounds]
 by_cases hij:i=j
 ·subst hij
  by_cases hl:i<listed.size
  ·simp[hl]
  ·simp[hl]
 ·simp[hij]
theorem Eqv.symm' {a b:qg}(h:Eqv a b):Eqv b a:=⟨h.1.symm,fun s=>(h.2 s).symm⟩
def pick (full:List qu)(l:List Nat):List qu:=l.map fun i=>full.getD i default
theorem jo.get {l:List Nat}{lo:List qu}(h:jo P nt ops l lo):l.length=lo.length∧∀k i,l[k]?=some i→∃o,ops[i]?=some o∧js P nt ops o (lo.getD k default):=by
 induction h with
 |nil=>exact⟨rfl,by simp⟩
 |cons hi h t ih=>
  refine⟨by simp[ih.1],fun k i hk=>?_⟩
  cases k with
  |zero=>simp at hk;subst hk;exact⟨_,hi,h⟩
  |succ k=>simp at hk;obtain⟨o,h1,h2⟩:=ih.2 k i hk;exact⟨o,h1,by simpa using h2⟩
theorem jrk {full:List qu}{bef:Array Nat}(hp':qx P p)(hx:CodeOk P xc){Q:Exit→Act→World→Prop}{st':qg}(hQ:∀a' w',StOk P w0 C0 C nt st' a' w'→Q .normal a' w')
  (hfull:∀i o,ops[i]?=some o→js P nt ops o (full.getD i default)) (hpass:∀i j,i<j→j<ops.size→(bef.getD j 0).testBit i=false→qid (full.getD i default) (full.getD j default)=true)
  (hbef:∀j o i,ops[j]?=some o→i<ops.size→(bef.getD j 0).testBit i=true→∃e∈o.after,Region.binds .any e=true∧(e.on=i∨(bef.getD e.on 0).testBit i=true))
  (hedge:∀i o,ops[i]?=some o→∀e∈o.after,Region.binds .any e=true→e.on<i):
  ∀(fuel:Nat) (listed:Array Bool) (l:List Nat) (st s2:qg) (a:Act) (w:World),listed.size=ops.size→l.Pairwise (· < ·)→(∀i,i∈l↔i<ops.size∧listed.getD i true=false)→l.length≤fuel →
   (∀k i,i<ops.size→listed.getD k false=true→(bef.getD k 0).testBit i=true→listed.getD i false=true)→qb3 p xc h0 (pick full l) st=some s2→Eqv s2 st'→StOk P w0 C0 C nt st a w→wpAnyIn (qbi ρ) 0 P .any ops Q fuel listed a w:=by
 intro fuel
 induction fuel with
 |zero=>
  intro listed l st s2 a w hsz hsorted hmem hlen hclosed hs heq hst
  have hl:l=[]:=List.length_eq_zero_iff.1 (by omega)
  subst hl
  simp only[pick,List.map_nil,qb3,Option.some.injEq]at hs
  subst hs
  refine⟨?_,hQ _ _ (hst.eqv heq)⟩
  cases hr:Region.ready .any ops listed with
  |nil=>rfl
  |cons i rs=>
   have hi:i∈Region.ready .any ops listed:=by rw[hr];simp
   obtain⟨h1,o,ho,_⟩:=mem_ready.1 hi
   have:=(hmem i).2 ⟨(Array.getElem?_eq_some_iff.1 ho).1,h1⟩
   cases this
 |succ fuel ih=>
  intro listed l st s2 a w hsz hsorted hmem hlen hclosed hs heq hst
  refine⟨fun hr=>?_,fun i hi=>?_⟩
  ·cases l with
   |nil=>
    simp only[pick,List.map_nil,qb3,Option.some.injEq]at hs
    subst hs
    exact hQ _ _ (hst.eqv heq)
   |cons i l=>
    exfalso
    obtain⟨h1,h2⟩:=(hmem i).1 (by simp)
    have hi:i∈Region.ready .any ops listed:=by
     refine mem_ready.2 ⟨h2,ops[i],Array.getElem?_eq_getElem h1,fun e he hb=>?_⟩
     have hlt:=hedge i _ (Array.getElem?_eq_getElem h1) e he hb
     have hne:e.on ∉ i::l:=fun hm=>by
      rcases List.mem_cons.1 hm with h|h
      ·omega
      ·have:=(List.pairwise_cons.1 hsorted).1 _ h;omega
     have h3:¬(listed.getD e.on true=false):=fun h=>hne ((hmem e.on).2 ⟨by omega,h⟩)
     have hlt2:e.on<listed.size:=by omega
     simp only[Array.getD_eq_getD_getElem?,Array.getElem?_eq_getElem hlt2,Option.getD_some]at h3 ⊢
     simpa using h3
    rw[hr]at hi
    cases hi
  ·obtain⟨h1,o,ho,hall⟩:=mem_ready.1 hi
   have hlt:=(Array.getElem?_eq_some_iff.1 ho).1
   have him:i∈l:=(hmem i).2 ⟨hlt,h1⟩
   obtain⟨l1,l2,rfl⟩:=List.append_of_mem him
   have hunl:∀k,k∈l1++i::l2→listed.getD k false=true→False:=fun k hk hl=>by
    obtain⟨k1,k2⟩:=(hmem k).1 hk
    have hlt2:k<listed.size:=by omega
    simp only[Array.getD_eq_getD_getElem?,Array.getElem?_eq_getElem hlt2,Option.getD_some]at hl k2
    rw[hl]at k2;cases k2
   have hbi:∀k,k<ops.size→(bef.getD i 0).testBit k=true→listed.getD k false=true:=fun k hk hb=>by
    obtain⟨e,he,hb1,h2|h2⟩:=hbef i o k ho hk hb
    ·rw[←h2];exact hall e he hb1
    ·exact hclosed e.on k hk (hall e he hb1) h2
   have hm:∀b∈pick full l1,qid b (full.getD i default)=true:=by
    intro b hb
    obtain⟨k,hk,rfl⟩:=List.mem_map.1 hb
    have hki:k<i:=(List.pairwise_append.1 hsorted).2.2 k hk i (by simp)
    refine hpass k i hki hlt ?_
    cases hbit:(bef.getD i 0).testBit k with
    |false=>rfl
    |true=>exact(hunl k (by simp[hk]) (hbi k (by omega) hbit)).elim
   have hpk:pick full (l1++i::l2)=pick full l1++full.getD i default::pick full l2:=by simp[pick]
   rw[hpk]at hs
   obtain⟨t1,t2,g1,g2,g3⟩:=qv9 hm hs
   refine q56 hp' hx ho (hfull i o ho) g1 hst fun a' w' hst'=>?_
   refine ih (listed.setIfInBounds i true) (l1++l2) t1 t2 a' w' (by simpa using hsz) ?_ ?_ ?_ ?_ (by rw[show pick full (l1++l2)=pick full l1++pick full l2 from by simp[pick]];exact g2) (Eqv.trans (Eqv.symm' g3) heq) hst'
   ·exact hsorted.sublist (List.Sublist.append (List.Sublist.refl _) (List.sublist_cons_self _ _))
   ·intro k
    rw[qt7]
    have hnod:i ∉ l1∧i ∉ l2:=by
     have h:=List.pairwise_append.1 hsorted
     refine⟨fun hi1=>?_,fun hi2=>?_⟩
     ·have:=h.2.2 i hi1 i (by simp);omega
     ·have:=(List.pairwise_cons.1 h.2.1).1 i hi2;omega
    constructor
    ·intro hk
     have hki:k≠i:=fun h=>by
      subst h
      rcases List.mem_append.1 hk with h|h
      ·exact hnod.1 h
      ·exact hnod.2 h
     have:=(hmem k).1 (by rcases List.mem_append.1 hk with h|h<;>simp[h])
     rw[if_neg (by omega)]
     exact this
    ·rintro ⟨k1,k2⟩
     split at k2
     ·cases k2
     ·rename_i hne
      have hki:k≠i:=fun h=>hne ⟨h.symm,by omega⟩
      have:=(hmem k).2 ⟨k1,k2⟩
      rcases List.mem_append.1 this with h|h
      ·simp[h]
      ·rcases List.mem_cons.1 h with h|h
       ·exact absurd h hki
       ·simp[h]
   ·simp at hlen ⊢;omega
   ·intro k j hj hk hb
    rw[qt7]at hk ⊢
    split
    ·rfl
    ·split at hk
     ·rename_i hik
      rw[←hik.1]at hb
      exact hbi j hj hb
     ·exact hclosed k j hj hk hb
theorem q5k {bef:Array Nat}{l:List qu}(h:q35 bef l=true){i j:Nat}(hij:i<j)(hj:j<l.length)(hb:(bef.getD j 0).testBit i=false):qid (l.getD i default) (l.getD j default)=true:=by
 unfold q35 at h
 rw[List.all_eq_true]at h
 have h1:=h (l[j],j) (List.mem_zipIdx_iff_getElem?.2 (by simp[hj]))
 simp only[]at h1
 rw[List.all_eq_true]at h1
 have h2:=h1 (l[i]'(by omega),i) (List.mem_zipIdx_iff_getElem?.2 (by simp))
 simp only[hij,hb,decide_true,Bool.not_true,Bool.false_or]at h2
 simp only[List.getD_eq_getElem?_getD,List.getElem?_eq_getElem hj,List.getElem?_eq_getElem (show i<l.length by omega),Option.getD_some]
 exact h2
theorem q94 {bef:Array Nat}(h:q86 bef ops=true){j i:Nat}{o:Oper}(ho:ops[j]?=some o)(hi:i<ops.size)(hb:(bef.getD j 0).testBit i=true):∃e∈o.after,Region.binds .any e=true∧(e.on=i∨(bef.getD e.on 0).testBit i=true):=by
 unfold q86 at h
 rw[List.all_eq_true]at h
 have h1:=h (o,j) (List.mem_zipIdx_iff_getElem?.2 (by simpa using ho))
 simp only[]at h1
 rw[List.all_eq_true]at h1
 have h2:=h1 i (List.mem_range.2 hi)
 rw[hb]at h2
 simp only[Bool.not_true,Bool.false_or,Array.any_eq_true']at h2
 obtain⟨e,he,h3⟩:=h2
 simp only[Bool.and_eq_true,Bool.or_eq_true,beq_iff_eq]at h3
 exact⟨e,he,h3.1,h3.2⟩
theorem q2g (h:qzu ops=true){i:Nat}{o:Oper}(ho:ops[i]?=some o):∀e∈o.after,Region.binds .any e=true→e.on<i:=by
 intro e he hb
 unfold qzu at h
 rw[List.all_eq_true]at h
 have h1:=h (o,i) (List.mem_zipIdx_iff_getElem?.2 (by simpa using ho))
 simp only[Array.all_eq_true']at h1
 have:=h1 e he
 simpa[hb]using this
theorem jb4 (hp':qx P p)(hx:CodeOk P xc){id:Nat}{draw:Bool}{ca:qe}{h:qb}{na:Nat}{l:List qu}{keep:Option (List Nat)}(hc:qnw P h nt id ops draw=some ca)(hca:ca=.region na l keep){st st':qg}{x:qo}(hs:qci p xc na l keep st=some (x,st')){ω:Nat→Option Loc}{a:Act}{w:World}
  (m:MInv P C ω w0 C0 st.heap w) (he:EnvRel C ω w w0.heap.size st.env a.tmps) (hsz:a.tmps.size=nt) (hdf:Marks C w0.heap.size a.defers):
  (Code.region id ops draw).wpIn (qbi ρ) 0 P (fun e a' w'=>e=qut x∧StOk P w0 C0 C nt st' a' w') a w:=by
 subst hca
 unfold qnw at hc
 split at hc
 ·rename_i l' rs hl
  split at hc
  ·rename_i hd
   simp only[Option.some.injEq,qe.region.injEq]at hc
   obtain⟨rfl,rfl,hkeep⟩:=hc
   unfold qci at hs
   split at hs
   ·rename_i s1 h1
    cases hs
    have hrels:jo P nt ops (List.range' 0 ops.size) l':=by
     have:=q0a hl (ops:=ops) (fun j=>by simp)
     simpa using this
    have hQ:∀a' w',StOk P w0 C0 C nt s1 a' w'→(fun e a' w'=>e=qut .normal∧StOk P w0 C0 C nt (qkd s1 keep) a' w') Exit.normal a' w':=fun a' w' hst=>⟨rfl,hst.keep⟩
    cases draw with
    |false=>
     refine wpIn_region ?_
     rw[List.range_eq_range']
     exact q57 hp' hx hQ hrels h1 ⟨hsz,C,ω,Ctx.le_refl C,hdf,m.holes _,he⟩
    |true=>
     simp only[Bool.not_true,Bool.false_or,Bool.and_eq_true]at hd
     obtain⟨⟨d1,d2⟩,d3⟩:=hd
     refine wpIn_region_any hp'.mixed ?_
     obtain⟨hlen,hget⟩:=hrels.get
     have hlen':l'.length=ops.size:=by rw[←hlen];simp
     have hfull:∀i o,ops[i]?=some o→js P nt ops o (l'.getD i default):=by
      intro i o ho
      have hi:=(Array.getElem?_eq_some_iff.1 ho).1
      obtain⟨o',h2,h3⟩:=hget i i (by rw[List.getElem?_range' hi];simp)
      rw[ho]at h2;cases h2;exact h3
     have hpk:pick l' (List.range ops.size)=l':=by
      z8 List.ext_getElem?
      intro k
      simp only[pick,List.getElem?_map]
      by_cases hk:k<ops.size
      ·rw[List.getElem?_range hk]
       simp[List.getElem?_eq_getElem (show k<l'.length by omega)]
      ·rw[List.getElem?_eq_none (by simpa using hk),List.getElem?_eq_none (by omega)];rfl
     refine jrk (bef:=Region.before ops) (full:=l') hp' hx hQ hfull (fun i j h2 h3 h4=>q5k d1 h2 (by omega) h4) (fun j o i h2 h3 h4=>q94 d3 h2 h3 h4) (fun i o h2=>q2g d2 h2) ops.size _ (List.range ops.size) ⟨st.env,st.heap++List.replicate rs.length .hole⟩ s1 a _ (by simp) List.pairwise_lt_range ?_ (by simp) ?_ (by rw[hpk];exact h1) (Eqv.refl _) ⟨hsz,C,ω,Ctx.le_refl C,hdf,(m.holes _).ext (Ext.drew w),he.ext (Ext.drew w)⟩
     ·intro i
      simp only[List.mem_range,Array.getD_eq_getD_getElem?,Array.getElem?_replicate]
      constructor
      ·intro hi;exact⟨hi,by simp[hi]⟩
      ·exact fun hi=>hi.1
     ·intro k i hi hk
      simp only[Array.getD_eq_getD_getElem?,Array.getElem?_replicate]at hk
      split at hk<;>simp at hk
   ·cases hs
  ·cases hc
 ·cases hc
end
end Go.Abs
