/- Two operations that may be exchanged. -/
import Derived.Test.YtnjngdcbkkonnaaGreatDoorAbsE
import Derived.OrdersIn
set_option linter.unusedVariables false
set_option linter.unusedSimpArgs false
namespace Go.Abs
section
variable {p:ju} {xc:XC} {h0:Nat} {al:Option (List Nat)}
def Agree (l:List Nat) (e e':Env):Prop:=∀ s∈l,jp s e=jp s e'
theorem Agree.app {l l':List Nat} {e e':Env} (h:Agree (l++l') e e'):Agree l e e'∧Agree l' e e':=
 ⟨fun s hs=>h s (List.mem_append_left _ hs),fun s hs=>h s (List.mem_append_right _ hs)⟩
theorem qx {e e':Env} {x:qu} (h:Agree (zb x) e e'):ql e x=ql e' x:=by
 cases x with
 | tmp t=>simp only [ql,h t (by simp [zb])]
 | const v=>rfl
theorem qcu {e e':Env}:∀ {l:List qu},Agree (qjd l) e e'→kr e l=kr e' l
 | [],_=>rfl
 | x::l,h=>by
  have h':Agree (zb x++qjd l) e e':=by simpa [qjd] using h
  simp only [kr,qx h'.app.1,qcu h'.app.2]
theorem qd7 {e e':Env} {x:Option qu} (d n:Nat) (h:Agree (qmn x) e e'):bnd e d n x=bnd e' d n x:=by
 cases x with
 | none=>rfl
 | some x=>simp only [bnd,qx (x:=x) h]
theorem qjr {e e':Env} {x:qu} (h:Agree (zb x) e e'):zh e x=zh e' x:=by
 cases x with
 | tmp t=>simp only [zh,h t (by simp [zb])]
 | const v=>rfl
theorem qis {e e':Env}:∀ {l:List (Nat × Nat × qu)},Agree (l.flatMap fun p=>zb p.2.2) e e'→kh e l=kh e' l
 | [],_=>rfl
 | (i,n,x)::l,h=>by
  have h':Agree (zb x++l.flatMap fun p=>zb p.2.2) e e':=by simpa using h
  simp only [kh,qx h'.app.1,qis h'.app.2]
theorem qjb {e e':Env} {sz:Nat}:∀ {l:List (Nat × qu)},Agree (l.flatMap fun p=>zb p.2) e e'→yt e sz l=yt e' sz l
 | [],_=>rfl
 | (i,x)::l,h=>by
  have h':Agree (zb x++l.flatMap fun p=>zb p.2) e e':=by simpa using h
  simp only [yt,qx h'.app.1,qjb h'.app.2]
theorem qv8 {e e':Env} {h:qk} {op:AOp} (ha:Agree op.reads e e'):qg p xc h0 al e h op=qg p xc h0 al e' h op:=by
 cases op with
 | move x=>simp only [qg,qr,qx (x:=x) ha]
 | take s=>simp only [qg,qr,ha s (by simp [AOp.reads])]
 | pick c x y=>simp only [AOp.reads] at ha; simp only [qg,qr,qx ha.app.1.app.1,qx ha.app.1.app.2,qx ha.app.2]
 | build z ps=>simp only [qg,qr,qis (l:=ps) ha]
 | buildSlice sz n z ps=>simp only [qg,qr,qjb (l:=ps) ha]
 | nilCheck x=>simp only [qg,qr,qx (x:=x) ha]
 | vbox n x=>simp only [qg,qr,qx (x:=x) ha]
 | vload ag n x=>simp only [qg,qr,qx (x:=x) ha]
 | bin op x y=>simp only [AOp.reads] at ha; simp only [qg,qr,qx ha.app.1,qx ha.app.2]
 | eqs ks n x y=>simp only [AOp.reads] at ha; simp only [qg,qr,qx ha.app.1,qx ha.app.2]
 | beq n x y=>simp only [AOp.reads] at ha; simp only [qg,qr,qx ha.app.1,qx ha.app.2]
 | nilEq k n x=>simp only [qg,qr,qx (x:=x) ha]
 | un op x=>simp only [qg,qr,qx (x:=x) ha]
 | conv k x=>simp only [qg,qr,qx (x:=x) ha]
 | convStr x=>simp only [qg,qr,qx (x:=x) ha]
 | field ag off n x=>simp only [qg,qr,qx (x:=x) ha]
 | index ag l n x i=>simp only [AOp.reads] at ha; simp only [qg,qr,qx ha.app.1,qx ha.app.2]
 | strIndex x i=>simp only [AOp.reads] at ha; simp only [qg,qr,qx ha.app.1,qx ha.app.2]
 | fieldAddr ag off n x=>simp only [qg,qr,qx (x:=x) ha]
 | indexAddr sz x i=>simp only [AOp.reads] at ha; simp only [qg,qr,qx ha.app.1,qx ha.app.2]
 | indexArr ag l sz x i=>simp only [AOp.reads] at ha; simp only [qg,qr,qx ha.app.1,qx ha.app.2]
 | slice sz x lo hi=>simp only [AOp.reads] at ha; simp only [qg,qr,qx ha.app.1.app.1,qd7 _ _ ha.app.1.app.2,qd7 _ _ ha.app.2]
 | strSlice x lo hi=>simp only [AOp.reads] at ha; simp only [qg,qr,qx ha.app.1.app.1,qd7 _ _ ha.app.1.app.2,qd7 _ _ ha.app.2]
 | sliceArr l sz x lo hi=>simp only [AOp.reads] at ha; simp only [qg,qr,qx ha.app.1.app.1,qd7 _ _ ha.app.1.app.2,qd7 _ _ ha.app.2]
 | mkfunc f x y=>simp only [AOp.reads] at ha; simp only [qg,qr,qcu ha.app.1,qcu ha.app.2]
 | len k x=>simp only [qg,qr,qx (x:=x) ha]
 | append r sz b x y=>
  simp only [AOp.reads] at ha
  cases r with
  | none=>simp only [qg,qr,qx ha.app.1,qx ha.app.2,qjr ha.app.1]
  | some r=>simp only [qg,qw,qx ha.app.1,qx ha.app.2,qjr ha.app.1]
 | mkslice r sz b z n c=>
  simp only [AOp.reads] at ha
  cases r with
  | none=>simp only [qg,qr,qx ha.app.1,qx ha.app.2]
  | some r=>simp only [qg,qw,qx ha.app.1,qx ha.app.2]
 | mx l=>simp only [qg,qr,qcu (l:=l) ha]
 | mn l=>simp only [qg,qr,qcu (l:=l) ha]
 | extract x i=>simp only [qg,qr,qx (x:=x) ha]
 | load ag n x=>simp only [qg,yp,qx (x:=x) ha]
 | alloc r z=>rfl
 | bld r t e=>rfl
 | box r n x=>simp only [qg,qw,qx (x:=x) ha]
 | loadTake off x=>simp only [qg,qw,qx (x:=x) ha]
 | store n x y=>simp only [AOp.reads] at ha; simp only [qg,qw,qx ha.app.1,qx ha.app.2,qjr ha.app.2]
 | mkmap r=>rfl
 | srange r x=>simp only [qg,qw,qx (x:=x) ha]
 | call md f l=>simp only [AOp.reads] at ha; simp only [qg,yr,qx ha.app.1,qcu ha.app.2]
 | lookup kd z ok x y=>simp only [AOp.reads] at ha; simp only [qg,yp,qx ha.app.1,qx ha.app.2]
 | mapUpdate kd x y z=>simp only [AOp.reads] at ha; simp only [qg,qw,qx ha.app.1.app.1,qx ha.app.1.app.2,qx ha.app.2]
 | delete kd x y=>simp only [AOp.reads] at ha; simp only [qg,qw,qx ha.app.1,qx ha.app.2]
 | copy sz x y=>simp only [AOp.reads] at ha; simp only [qg,qw,qx ha.app.1,qx ha.app.2]
 | snext x=>simp only [qg,qw,qx (x:=x) ha]
 | bad=>rfl
def ORes.at (r:ORes) (h:qk):ORes:={ r with heap:=h }
theorem qco {h h':qk} {x:AVal} {r:ORes} (hs:val h x=some r):r.heap=h∧val h' x=some (r.at h'):=by
 simp only [val,Option.some.injEq] at hs; subst hs; exact ⟨rfl,rfl⟩
theorem q72 (h:qk) (x:Option AVal):qav h x=(qav [] x).map (·.at h):=by cases x <;> rfl
theorem qqk {α β:Type} (c:Bool) (x y:Option α) (f:α→β):(bif c then x else y).map f=bif c then x.map f else y.map f:=by cases c <;> rfl
theorem qnp (e:Env) (h:qk) (op:AOp):qr e h op=(qr e [] op).map (·.at h):=by
 cases op with
 | append r sz b x y=>
  cases r with
  | some r=>rfl
  | none=>
   simp only [qr]
   repeat' split
   all_goals first
    | rfl
    | (simp only [qqk]; repeat' split) <;> rfl
 | mkslice r sz b z n c=>
  cases r with
  | some r=>rfl
  | none=>
   simp only [qr]
   repeat' split
   all_goals first
    | rfl
    | (simp only [qqk]; rfl)
 | _=>
  simp only [qr]
  repeat' split
  all_goals first
   | rfl
   | exact q72 _ _
   | (simp only [qqk]; first | rfl | (repeat' split) <;> rfl)
theorem qpu {e:Env} {h:qk} (h':qk) {op:AOp} {r:ORes} (hs:qr e h op=some r):r.heap=h∧qr e h' op=some (r.at h'):=by
 rw [qnp] at hs
 obtain ⟨r0,h1,rfl⟩:=Option.map_eq_some_iff.1 hs
 refine ⟨rfl,?_⟩
 rw [qnp,h1]
 rfl
end
section
variable {p:ju} {xc:XC} {h0:Nat} {al:Option (List Nat)}
def HB (h0:Nat) (al:Option (List Nat)) (F:qk→Option ORes) (h:qk) (r:ORes):Cls→Nat→Prop
 | .pure,_=>r.heap=h∧∀ h',F h'=some (r.at h')
 | .read,_=>r.heap=h∧∀ h':qk,(∀ b,j8 h0 al b=true→h'[b]?=h[b]?)→F h'=some (r.at h')
 | .alloc,k=>∃ x,newBox h0 h k x=some r.heap∧∀ h' h3,newBox h0 h' k x=some h3→F h'=some (r.at h3)
 | .write,_=>∃ b x,j8 h0 al b=true∧jz h b x=some r.heap∧∀ h' h3:qk,h'[b]?=h[b]?→jz h' b x=some h3→F h'=some (r.at h3)
 | .take,k=>∃ b cs v o,j8 h0 al b=true∧h[b]?=some (.cells cs)∧cs[k]?=some (v,o)∧r.heap=h.set b (.cells (cs.set k (v,false))) ∧
   ∀ (h':qk) (cs':List (AVal × Bool)),h'[b]?=some (.cells cs')→cs'[k]?=some (v,o)→F h'=some (r.at (h'.set b (.cells (cs'.set k (v,false)))))
 | .frz,_=>False
 | .shr,_=>True
theorem qb7 {h h':qk} {b:Nat} (hb:h'[b]?=h[b]?):jq h' b=jq h b:=by simp only [jq,hb]
theorem q3z {e:Env} {h:qk} {op:AOp} {r:ORes} (hs:qg p xc h0 al e h op=some r):HB h0 al (fun h=>qg p xc h0 al e h op) h r op.cl op.rank:=by
 have pureCase:(∀ h,qg p xc h0 al e h op=qr e h op)→op.cl=.pure→HB h0 al (fun h=>qg p xc h0 al e h op) h r op.cl op.rank:=by
  intro heq hcl
  rw [hcl]
  rw [heq] at hs
  exact ⟨(qpu h hs).1,fun h'=>(heq h').trans (qpu h' hs).2⟩
 cases op with
 | load ag n x=>
  simp only [qg,yp] at hs
  split at hs
  ·rename_i b o hv
   cases hk:j8 h0 al b with
   | false=>simp [hk] at hs
   | true=>
    simp only [hk,cond_true] at hs
    split at hs
    ·rename_i cs hcs
     split at hs
     ·rename_i vs hvs
      have key:r.heap=h∧∀ h':qk,jq h' b=jq h b→yp h0 al e h' (.load ag n x)=some (r.at h'):=by
       cases ag with
       | true=>
        simp only [cond_true] at hs
        refine ⟨(qco (h':=h) hs).1,fun h' hb=>?_⟩
        simp only [yp,hv,hk,cond_true,hb,hcs,hvs]
        exact (qco (h':=h') hs).2
       | false=>
        simp only [cond_false] at hs
        split at hs
        ·refine ⟨(qco (h':=h) hs).1,fun h' hb=>?_⟩
         simp only [yp,hv,hk,cond_true,hb,hcs,hvs,cond_false]
         exact (qco (h':=h') hs).2
        ·cases hs
      exact ⟨key.1,fun h' hag=>key.2 h' (qb7 (hag b hk))⟩
     ·cases hs
    ·cases hs
  ·rename_i v hv
   cases hk:(Bool.xor ag v.isAgg || !(Nat.beq v.flat.length n)) with
   | true=>simp [hk] at hs
   | false=>
    simp only [hk,cond_false] at hs
    refine ⟨(qco (h':=h) hs).1,fun h' _=>?_⟩
    simp only [qg,yp,hv,hk,cond_false]
    exact (qco (h':=h') hs).2
  ·cases hs
 | len k x=>exact pureCase (fun _=>rfl) rfl
 | alloc rk z=>
  simp only [qg,qw] at hs
  cases hk:z.all qp with
  | false=>simp [hk] at hs
  | true=>
   simp only [hk,cond_true] at hs
   split at hs
   ·rename_i h' hn
    have h1:=jf hs
    refine ⟨_,by rw [h1]; exact hn,fun g g3 hg=>?_⟩
    simp only [qg,qw,hk,cond_true]
    rw [show AOp.rank (.alloc rk z)=rk from rfl] at hg
    rw [hg,h1]; rfl
   ·cases hs
 | box rk n x=>
  simp only [qg,qw] at hs
  split at hs
  ·rename_i v hv
   cases hk:(Nat.beq v.flat.length n && v.flat.all qp) with
   | false=>simp [hk] at hs
   | true=>
    simp only [hk,cond_true] at hs
    split at hs
    ·rename_i h' hn
     have h1:=jf hs
     refine ⟨_,by rw [h1]; exact hn,fun g g3 hg=>?_⟩
     simp only [qg,qw,hv,hk,cond_true]
     rw [show AOp.rank (.box rk n x)=rk from rfl] at hg
     rw [hg,h1]; rfl
    ·cases hs
  ·cases hs
 | bld rk t e'=>
  simp only [qg,qw] at hs
  split at hs
  ·rename_i h' hn
   have h1:=jf hs
   refine ⟨_,by rw [h1]; exact hn,fun g g3 hg=>?_⟩
   simp only [qg,qw]
   rw [show AOp.rank (.bld rk t e')=rk from rfl] at hg
   rw [hg,h1]; rfl
  ·cases hs
 | mkmap rk=>
  simp only [qg,qw] at hs
  split at hs
  ·rename_i h' hn
   have h1:=jf hs
   refine ⟨_,by rw [h1]; exact hn,fun g g3 hg=>?_⟩
   simp only [qg,qw]
   rw [show AOp.rank (.mkmap rk)=rk from rfl] at hg
   rw [hg,h1]; rfl
  ·cases hs
 | srange rk x=>
  simp only [qg,qw] at hs
  split at hs
  ·rename_i s hv
   split at hs
   ·rename_i h' hn
    have h1:=jf hs
    refine ⟨_,by rw [h1]; exact hn,fun g g3 hg=>?_⟩
    simp only [qg,qw,hv]
    rw [show AOp.rank (.srange rk x)=rk from rfl] at hg
    rw [hg,h1]; rfl
   ·cases hs
  ·cases hs
 | loadTake off x=>
  simp only [qg,qw] at hs
  split at hs
  ·rename_i b o hv
   cases hk:j8 h0 al b && qf0 off o with
   | false=>simp [hk] at hs
   | true=>
    simp only [hk,cond_true] at hs
    have hk':j8 h0 al b=true:=by simp only [Bool.and_eq_true] at hk; exact hk.1
    split at hs
    ·rename_i cs hcs
     split at hs
     ·rename_i v ow hq
      split at hs
      ·rename_i h' hset
       cases hs
       have hset0:=hset
       unfold jz at hset0
       cases hlt:Nat.blt b h.length with
       | false=>simp [hlt] at hset0
       | true=>
        simp only [hlt,cond_true,Option.some.injEq] at hset0
        cases off with
        | none=>
         refine ⟨b,_,hk',hset,fun g g3 hb hg=>?_⟩
         simp only [qg,qw,hv,hk,cond_true,qb7 hb,hcs,hq,hg]
         rfl
        | some k=>
         have hko:k=o:=by
          simp only [Bool.and_eq_true,qf0] at hk; exact Nat.eq_of_beq_eq_true hk.2
         subst hko
         have hhb:h[b]?=some (.cells cs):=by
          unfold jq at hcs
          split at hcs
          ·rename_i cs' h'; cases hcs; exact h'
          ·cases hcs
         refine ⟨b,cs,v,ow,hk',hhb,hq,hset0.symm,fun g cs' hg hc'=>?_⟩
         have hc':cs'[k]?=some (v,ow):=hc'
         have hlg:b < g.length:=(List.getElem?_eq_some_iff.1 hg).1
         have hbc:jq g b=some cs':=by simp only [jq,hg]
         have hsg:jz g b (.cells (cs'.set k (v,false)))=some (g.set b (.cells (cs'.set k (v,false)))):=by
          unfold jz; rw [Nat.blt_eq.mpr hlg]; rfl
         simp only [qg,qw,hv,hk,cond_true,hbc,hc',hsg]
         rfl
      ·cases hs
     ·cases hs
    ·cases hs
  ·cases hs
 | store n x y=>
  simp only [qg,qw] at hs
  split at hs
  ·rename_i b o v hv hy
   cases hk:j8 h0 al b with
   | false=>simp [hk] at hs
   | true=>
    simp only [hk,cond_true] at hs
    split at hs
    ·rename_i cs hcs
     split at hs
     ·rename_i t ht
      cases hk2:(Nat.beq n 1 && v.isList && Nat.blt o cs.length) with
      | false=>simp [hk2] at hs
      | true=>
       simp only [hk2,cond_true] at hs
       split at hs
       ·rename_i h' hset
        cases hs
        refine ⟨b,_,hk,hset,fun g g3 hb hg=>?_⟩
        simp only [qg,qw,hv,hy,hk,cond_true,qb7 hb,hcs,ht,hk2,hg]
        rfl
       ·cases hs
     ·rename_i ht
      cases hk2:Nat.beq v.flat.length n with
      | false=>simp [hk2] at hs
      | true=>
       simp only [hk2,cond_true] at hs
       split at hs
       ·rename_i cs' hst
        split at hs
        ·rename_i h' hset
         have h1:=jf hs
         refine ⟨b,_,hk,by rw [h1]; exact hset,fun g g3 hb hg=>?_⟩
         simp only [qg,qw,hv,hy,hk,cond_true,qb7 hb,hcs,ht,hk2,hst,hg,h1]
         rfl
        ·cases hs
       ·cases hs
    ·cases hs
  ·cases hs
 | call md f l=>
  cases md with
  | shr=>trivial
  | red=>trivial
  | frz rk=>
   simp only [qg,yr] at hs
   split at hs
   ·rename_i k first captured vs e1 e2
    cases hb:(first++vs++captured).isEmpty with
    | false=>
     rw [hb] at hs
     simp only [cond_false] at hs
     cases hb2:jk 0 (first++vs++captured) with
     | false=>rw [hb2] at hs; cases hs
     | true=>
      rw [hb2] at hs
      simp only [cond_true] at hs
      split at hs
      ·rename_i v o hci
       have goal:∃ x,newBox h0 h rk x=some r.heap∧∀ g g3,newBox h0 g rk x=some g3→qb2 h0 g rk v o=some (r.at g3):=by
        unfold qb2 at hs
        split at hs
        ·split at hs
         ·rename_i h' hn
          have h1:=jf hs
          refine ⟨_,by rw [h1]; exact hn,fun g g3 hg=>?_⟩
          simp only [qb2,hg,h1]; rfl
         ·cases hs
        ·rename_i sz xs
         cases hb3:(xs.flatMap AVal.flat).all qbg with
         | false=>rw [hb3] at hs; cases hs
         | true=>
          rw [hb3] at hs
          simp only [cond_true] at hs
          split at hs
          ·rename_i h' hn
           have h1:=jf hs
           refine ⟨_,by rw [h1]; exact hn,fun g g3 hg=>?_⟩
           simp only [qb2,hb3,cond_true,hg,h1]; rfl
          ·cases hs
        ·cases hs
       obtain ⟨x,g1,g2⟩:=goal
       refine ⟨x,g1,fun g g3 hg=>?_⟩
       simp only [qg,yr,e1,e2,hci]
       rw [hb,hb2]
       exact g2 g g3 hg
      ·cases hs
    | true=>
     rw [hb] at hs
     simp only [cond_true] at hs
     split at hs
     ·rename_i es hm
      split at hs
      ·rename_i h' hn
       have h1:=jf hs
       refine ⟨_,by rw [h1]; exact hn,fun g g3 hg=>?_⟩
       simp only [qg,yr,e1,e2,hm]
       rw [hb]
       simp only [cond_true]
       rw [show AOp.rank (.call (.frz rk) f l)=rk from rfl] at hg
       rw [hg,h1]; rfl
      ·cases hs
     ·cases hs
   ·cases hs
   ·cases hs
  | iso=>
   simp only [qg,yr] at hs
   split at hs
   ·rename_i k first captured vs e1 e2
    cases hb:jk 0 (first++vs++captured) with
    | false=>rw [hb] at hs; cases hs
    | true=>
     rw [hb] at hs
     simp only [cond_true] at hs
     split at hs
     ·rename_i v o hci
      cases hs
      refine ⟨rfl,fun h'=>?_⟩
      simp only [qg,yr,e1,e2,hci]
      rw [hb]
      rfl
     ·cases hs
   ·cases hs
   ·cases hs
 | append rk sz b x y=>
  cases rk with
  | none=>exact pureCase (fun _=>rfl) rfl
  | some rk=>
   simp only [qg,qw] at hs
   split at hs
   ·rename_i sz' vy e1 e2
    cases hk1:((zh e x).isSome && Nat.beq sz sz') with
    | false=>simp [hk1] at hs
    | true=>
     simp only [hk1,cond_true] at hs
     split at hs
     ·rename_i ys hsrc
      cases hk2:(Nat.ble ys.length 1073741824 && Nat.ble b 4096 && Nat.blt 0 sz) with
      | false=>simp [hk2] at hs
      | true=>
       simp only [hk2,cond_true] at hs
       split at hs
       ·rename_i h' hn
        cases hs
        refine ⟨_,hn,fun g g3 hg=>?_⟩
        simp only [qg,qw,e1,e2,hk1,hsrc,hk2,cond_true]
        rw [show AOp.rank (.append (some rk) sz b x y)=rk from rfl] at hg
        rw [hg]; rfl
       ·cases hs
     ·cases hs
   ·cases hs
 | mkslice rk sz b z n c=>
  cases rk with
  | none=>exact pureCase (fun _=>rfl) rfl
  | some rk=>
   simp only [qg,qw] at hs
   split at hs
   ·rename_i n' c' e1 e2
    cases hk:(Nat.beq n' c' && Nat.ble n' 1073741824 && Nat.ble b 4096 && Nat.beq z.length sz && Nat.blt 0 sz && z.all qp) with
    | false=>simp [hk] at hs
    | true=>
     simp only [hk,cond_true] at hs
     split at hs
     ·rename_i h' hn
      have h1:=jf hs
      refine ⟨_,by rw [h1]; exact hn,fun g g3 hg=>?_⟩
      simp only [qg,qw,e1,e2,hk,cond_true]
      rw [show AOp.rank (.mkslice (some rk) sz b z n c)=rk from rfl] at hg
      rw [hg,h1]; rfl
     ·cases hs
   ·cases hs
 | lookup kd z ok x y=>
  simp only [qg,yp] at hs
  split at hs
  ·rename_i b kv e1 e2
   cases hk:j8 h0 al b with
   | false=>simp [hk] at hs
   | true=>
    simp only [hk,cond_true] at hs
    split at hs
    ·rename_i es hb
     have hgb:∀ h':qk,(∀ b,j8 h0 al b=true→h'[b]?=h[b]?)→zu h' b=some (.map es):=fun h' hag=>by
      unfold zu at hb ⊢; rw [hag b hk,hb]
     split at hs
     ·rename_i i v hf
      refine ⟨(qco (h':=h) hs).1,fun h' hag=>?_⟩
      simp only [qg,yp,e1,e2,hk,cond_true,hgb h' hag,hf]
      exact (qco (h':=h') hs).2
     ·rename_i hf
      refine ⟨(qco (h':=h) hs).1,fun h' hag=>?_⟩
      simp only [qg,yp,e1,e2,hk,cond_true,hgb h' hag,hf]
      exact (qco (h':=h') hs).2
     ·cases hs
    ·cases hs
  ·rename_i kv e1 e2
   refine ⟨(qco (h':=h) hs).1,fun h' hag=>?_⟩
   simp only [qg,yp,e1,e2]
   exact (qco (h':=h') hs).2
  ·cases hs
 | mapUpdate kd x y z=>
  simp only [qg,qw] at hs
  split at hs
  ·rename_i b kv v e1 e2 e3
   cases hk:j8 h0 al b with
   | false=>simp [hk] at hs
   | true=>
    simp only [hk,cond_true] at hs
    split at hs
    ·rename_i es hb
     have hgb:∀ h':qk,h'[b]?=h[b]?→zu h' b=some (.map es):=fun h' hag=>by
      unfold zu at hb ⊢; rw [hag,hb]
     split at hs
     ·rename_i i u hf
      split at hs
      ·rename_i h' hset
       have h1:=jf hs
       refine ⟨b,_,hk,by rw [h1]; exact hset,fun g g3 hb' hg=>?_⟩
       simp only [qg,qw,e1,e2,e3,hk,cond_true,hgb g hb',hf,hg,h1]
       rfl
      ·cases hs
     ·rename_i hf
      cases hl:Nat.ble es.length 1073741824 with
      | false=>simp [hl] at hs
      | true=>
       simp only [hl,cond_true] at hs
       split at hs
       ·rename_i h' hset
        have h1:=jf hs
        refine ⟨b,_,hk,by rw [h1]; exact hset,fun g g3 hb' hg=>?_⟩
        simp only [qg,qw,e1,e2,e3,hk,cond_true,hgb g hb',hf,hl,hg,h1]
        rfl
       ·cases hs
     ·cases hs
    ·cases hs
  ·cases hs
 | delete kd x y=>
  simp only [qg,qw] at hs
  split at hs
  ·rename_i b kv e1 e2
   cases hk:j8 h0 al b with
   | false=>simp [hk] at hs
   | true=>
    simp only [hk,cond_true] at hs
    split at hs
    ·rename_i es hb
     have hgb:∀ h':qk,h'[b]?=h[b]?→zu h' b=some (.map es):=fun h' hag=>by
      unfold zu at hb ⊢; rw [hag,hb]
     split at hs
     ·rename_i rr hf
      split at hs
      ·rename_i h' hset
       have h1:=jf hs
       refine ⟨b,_,hk,by rw [h1]; exact hset,fun g g3 hb' hg=>?_⟩
       simp only [qg,qw,e1,e2,hk,cond_true,hgb g hb',hf,hg,h1]
       rfl
      ·cases hs
     ·cases hs
    ·cases hs
  ·cases hs
 | copy sz x y=>
  simp only [qg,qw] at hs
  split at hs
  ·rename_i b o len vy e1 e2
   cases hk:j8 h0 al b with
   | false=>simp [hk] at hs
   | true=>
    simp only [hk,cond_true] at hs
    split at hs
    ·rename_i cs hcs
     split at hs
     ·rename_i n us hsrc
      split at hs
      ·rename_i cs' hst
       cases hk2:Nat.beq us.length (n * sz) with
       | false=>simp [hk2] at hs
       | true=>
        simp only [hk2,cond_true] at hs
        split at hs
        ·rename_i h' hset
         have h1:=jf hs
         refine ⟨b,_,hk,by rw [h1]; exact hset,fun g g3 hb hg=>?_⟩
         simp only [qg,qw,e1,e2,hk,cond_true,qb7 hb,hcs,hsrc,hst,hk2,hg,h1]
         rfl
        ·cases hs
      ·cases hs
     ·cases hs
    ·cases hs
  ·cases hs
 | snext x=>
  simp only [qg,qw] at hs
  split at hs
  ·rename_i b hv
   cases hk:j8 h0 al b with
   | false=>simp [hk] at hs
   | true=>
    simp only [hk,cond_true] at hs
    split at hs
    ·rename_i s pos hb
     have hlt:b < h.length:=by unfold zu at hb; exact (List.getElem?_eq_some_iff.1 hb).1
     cases hp:Nat.blt pos s.length with
     | true=>
      simp only [hp,cond_true] at hs
      split at hs
      ·rename_i h' hset
       have h1:=jf hs
       refine ⟨b,_,hk,by rw [h1]; exact hset,fun g g3 hb' hg=>?_⟩
       have hgb:zu g b=some (.iter s pos):=by unfold zu at hb ⊢; rw [hb',hb]
       simp only [qg,qw,hv,hk,cond_true,hgb,hp,hg,h1]
       rfl
      ·cases hs
     | false=>
      simp only [hp,cond_false] at hs
      have h1:=jf hs
      have hself:h.set b (.iter s pos)=h:=by
       unfold zu at hb
       apply List.ext_getElem?
       intro k
       rw [List.getElem?_set]
       split
       ·rename_i hbk; subst hbk; first | exact hb.symm | rw [if_pos hlt,hb]
       ·rfl
      refine ⟨b,.iter s pos,hk,by rw [h1]; unfold jz; rw [Nat.blt_eq.mpr hlt]; simp [hself],fun g g3 hb' hg=>?_⟩
      have hgb:zu g b=some (.iter s pos):=by unfold zu at hb ⊢; rw [hb',hb]
      have hglt:b < g.length:=by unfold zu at hgb; exact (List.getElem?_eq_some_iff.1 hgb).1
      have hgself:g3=g:=by
       unfold jz at hg
       rw [Nat.blt_eq.mpr hglt] at hg
       simp only [cond_true,Option.some.injEq] at hg
       rw [← hg]
       unfold zu at hgb
       apply List.ext_getElem?
       intro k
       rw [List.getElem?_set]
       split
       ·rename_i hbk; subst hbk; first | exact hgb.symm | rw [if_pos hglt,hgb]
       ·rfl
      simp only [qg,qw,hv,hk,cond_true,hgb,hp,cond_false,h1,hgself]
      rfl
    ·cases hs
  ·cases hs
 | _=>exact pureCase (fun _=>rfl) rfl
theorem qct {h h':qk} {b:Nat} {x:ABox} (hs:jz h b x=some h'):b < h.length∧h'=h.set b x:=by
 unfold jz at hs
 cases hb:Nat.blt b h.length with
 | false=>simp [hb] at hs
 | true=>exact ⟨Nat.blt_eq.mp hb,by simpa [hb] using hs.symm⟩
theorem qgf {h:qk} {b:Nat} {x:ABox} (hb:b < h.length):jz h b x=some (h.set b x):=by
 unfold jz
 rw [Nat.blt_eq.mpr hb]; rfl
theorem qed {h:qk} {k:Nat} {x:ABox} (hh:h[h0 + k]?=some .hole):newBox h0 h k x=some (h.set (h0 + k) x):=by
 unfold newBox; rw [hh]
theorem qfb {b k:Nat} (h:j8 h0 al b=true) (hk:qcl al k=false):b ≠ h0 + k:=by
 intro hb
 subst hb
 cases al with
 | none=>simp [qcl] at hk
 | some l=>
  simp only [j8,qcl] at h hk
  have h1:Nat.blt (h0 + k) h0=false:=by
   cases hh:Nat.blt (h0 + k) h0 with
   | false=>rfl
   | true=>have:=Nat.blt_eq.mp hh; omega
  cases he:exl l with
  | false=>
   rw [he] at h hk
   simp only [cond_false] at h hk
   rw [h1,Bool.false_or,show h0 + k - h0=k from by omega,hk] at h
   cases h
  | true=>
   rw [he] at h hk
   simp only [cond_true] at h hk
   cases l with
   | nil=>cases he
   | cons x l=>
    simp only [exq] at h
    cases hx:Nat.blt x 2000 with
    | true=>rw [hx] at h; simp only [cond_true,h1,Bool.and_false] at h; cases h
    | false=>
     rw [hx] at h
     simp only [cond_false] at h
     have h2:=Nat.eq_of_beq_eq_true h
     have h3:¬ x < 2000:=fun hh=>by rw [Nat.blt_eq.mpr hh] at hx; cases hx
     have h4:x=2000 + k:=by omega
     rw [show (x::l).headD 0=x from rfl,h4,Nat.beq_refl] at hk
     cases hk
theorem qod {l:List Nat} {x:Nat} (h:(!(l.contains x))=true):l.contains x=false:=by
 cases hc:l.contains x with
 | false=>rfl
 | true=>rw [hc] at h; cases h
theorem qmh {al1 al2:Option (List Nat)} {b b':Nat} (h:qhn al1 al2=true) (h1:j8 h0 al1 b=true) (h2:j8 h0 al2 b'=true):b ≠ b':=by
 intro hb
 subst hb
 cases al1 with
 | none=>cases h
 | some l=>
  cases al2 with
  | none=>cases h
  | some m=>
   simp only [qhn,j8] at h h1 h2
   have inv:∀ {k:List Nat},exl k=true→exq h0 k b=true→(1000≤k.headD 0)∧((k.headD 0 < 2000∧b=k.headD 0 - 1000∧b < h0)∨(2000≤k.headD 0∧b=h0 + (k.headD 0 - 2000))):=by
    intro k he hq
    cases k with
    | nil=>cases he
    | cons x k=>
     refine ⟨Nat.le_of_ble_eq_true he,?_⟩
     simp only [exq] at hq
     cases hx:Nat.blt x 2000 with
     | true=>
      rw [hx] at hq
      simp only [cond_true,Bool.and_eq_true] at hq
      exact .inl ⟨Nat.blt_eq.mp hx,Nat.eq_of_beq_eq_true hq.1,Nat.blt_eq.mp hq.2⟩
     | false=>
      rw [hx] at hq
      simp only [cond_false] at hq
      have h3:¬ x < 2000:=fun hh=>by rw [Nat.blt_eq.mpr hh] at hx; cases hx
      exact .inr ⟨by show 2000≤x; omega,Nat.eq_of_beq_eq_true hq⟩
   have old:∀ {k:List Nat} {r:Nat},b=h0 + r→k.contains r=false→(Nat.blt b h0 || k.contains (b - h0))=true→False:=by
    intro k r hbr hc hq
    have h3:Nat.blt b h0=false:=by
     cases hh:Nat.blt b h0 with
     | false=>rfl
     | true=>have:=Nat.blt_eq.mp hh; omega
    rw [h3,Bool.false_or,show b - h0=r by omega,hc] at hq
    cases hq
   cases hl:exl l with
   | true=>
    rw [hl] at h h1
    simp only [cond_true] at h h1
    obtain ⟨i1,i2⟩:=inv hl h1
    cases hm:exl m with
    | true=>
     rw [hm] at h h2
     simp only [cond_true] at h h2
     obtain ⟨i3,i4⟩:=inv hm h2
     have hne:l.headD 0 ≠ m.headD 0:=fun e=>by rw [e,Nat.beq_refl] at h; cases h
     omega
    | false=>
     rw [hm] at h h2
     simp only [cond_false,Bool.and_eq_true] at h h2
     have h3:=Nat.le_of_ble_eq_true h.1
     exact old (by omega) (qod h.2) h2
   | false=>
    rw [hl] at h h1
    simp only [cond_false,Bool.and_eq_true] at h h1
    obtain ⟨⟨h3,h4⟩,h5⟩:=h
    rw [h3] at h2
    simp only [cond_true] at h2
    obtain ⟨i3,i4⟩:=inv h3 h2
    have h4:=Nat.le_of_ble_eq_true h4
    exact old (by omega) (qod h5) h1
theorem q0g {F:qk→Option ORes} {h:qk} {r:ORes} {k:Nat} (H:HB h0 al F h r .take k):HB h0 al F h r .write k:=by
 obtain ⟨b,cs,v,o,hb,hc,hv,hs,h4⟩:=H
 have hlt:b < h.length:=(List.getElem?_eq_some_iff.1 hc).1
 refine ⟨b,.cells (cs.set k (v,false)),hb,by rw [hs]; exact qgf hlt,fun h' h3 hh hset=>?_⟩
 rw [h4 h' cs (by rw [hh]; exact hc) hv]
 obtain ⟨_,s2⟩:=qct hset
 rw [s2]
theorem q8e {ca cb:Cls} {ka kb:Nat} {ala alb:Option (List Nat)} {Fa Fb:qk→Option ORes} {h:qk} {ra rb:ORes} (hFb:Fb h=some rb) (hFa:Fa rb.heap=some ra) (Hb:HB h0 alb Fb h rb cb kb) (Ha:HB h0 ala Fa rb.heap ra ca ka)
  (hcb:cb=.read∨cb=.write∨cb=.take) (hca:ca=.read∨ca=.write∨ca=.take) (hap:qhn alb ala=true):
  ∃ h1,Fa h=some (ra.at h1)∧Fb h1=some (rb.at ra.heap):=by
 have hat:∀ r:ORes,r.at r.heap=r:=fun _=>rfl
 have wb:(cb=.read∧HB h0 alb Fb h rb .read kb)∨HB h0 alb Fb h rb .write kb:=by
  rcases hcb with rfl | rfl | rfl
  ·exact .inl ⟨rfl,Hb⟩
  ·exact .inr Hb
  ·exact .inr (q0g Hb)
 have wa:(ca=.read∧HB h0 ala Fa rb.heap ra .read ka)∨HB h0 ala Fa rb.heap ra .write ka:=by
  rcases hca with rfl | rfl | rfl
  ·exact .inl ⟨rfl,Ha⟩
  ·exact .inr Ha
  ·exact .inr (q0g Ha)
 rcases wb with ⟨_,h1,h2⟩ | ⟨b,x,hb,hs,h2⟩
 ·rcases wa with ⟨_,h3,h4⟩ | ⟨b',y,hb',hs',h4⟩
  ·exact ⟨h,h4 h (fun b _=>by rw [h1]),by rw [h3,hat]; exact hFb⟩
  ·rw [h1] at hs'
   obtain ⟨s1,s2⟩:=qct hs'
   refine ⟨ra.heap,by rw [hat,← hFa,h1],h2 _ (fun b hb=>?_)⟩
   rw [s2,List.getElem?_set_ne (Ne.symm (qmh hap hb hb'))]
 ·obtain ⟨s1,s2⟩:=qct hs
  rcases wa with ⟨_,h3,h4⟩ | ⟨b',y,hb',hs',h4⟩
  ·refine ⟨h,h4 h (fun b' hb'=>?_),by rw [h3,hat]; exact hFb⟩
   rw [s2,List.getElem?_set_ne (qmh hap hb hb')]
  ·obtain ⟨s3,s4⟩:=qct hs'
   have hne:=qmh hap hb hb'
   rw [s2,List.length_set] at s3
   refine ⟨h.set b' y,h4 _ _ (by rw [s2,List.getElem?_set_ne hne]) (qgf s3),h2 _ _ (by rw [List.getElem?_set_ne (Ne.symm hne)]) ?_⟩
   rw [qgf (by rw [List.length_set]; exact s1),s4,s2,List.set_comm _ _ (Ne.symm hne)]
theorem jbx {ca cb:Cls} {ka kb:Nat} {ala alb:Option (List Nat)} {Fa Fb:qk→Option ORes} {h:qk} {ra rb:ORes} (hFb:Fb h=some rb) (hFa:Fa rb.heap=some ra) (Hb:HB h0 alb Fb h rb cb kb) (Ha:HB h0 ala Fa rb.heap ra ca ka)
  (hok:cb=.pure∨ca=.pure∨(cb=.read∧ca=.read)∨(cb=.alloc∧ca=.alloc∧kb ≠ ka)∨(cb=.alloc∧(ca=.read∨ca=.write∨ca=.take)∧qcl ala kb=false)∨((cb=.read∨cb=.write∨cb=.take)∧ca=.alloc∧qcl alb ka=false)∨(cb=.take∧ca=.take∧kb ≠ ka)):
  ∃ h1,Fa h=some (ra.at h1)∧Fb h1=some (rb.at ra.heap):=by
 have hat:∀ r:ORes,r.at r.heap=r:=fun _=>rfl
 rcases hok with rfl | rfl | ⟨rfl,rfl⟩ | ⟨rfl,rfl,hne⟩ | ⟨rfl,hca,hal⟩ | ⟨hcb,rfl,hal⟩ | ⟨rfl,rfl,hne⟩
 ·obtain ⟨h1,h2⟩:=Hb
  exact ⟨ra.heap,by rw [hat,← hFa,h1],h2 _⟩
 ·obtain ⟨h1,h2⟩:=Ha
  exact ⟨h,h2 _,by rw [h1,hat]; exact hFb⟩
 ·obtain ⟨h1,h2⟩:=Hb
  obtain ⟨h3,h4⟩:=Ha
  exact ⟨h,h4 h (fun b _=>by rw [h1]),by rw [h3,hat]; exact hFb⟩
 ·obtain ⟨x,n1,n2⟩:=Hb
  obtain ⟨y,n3,n4⟩:=Ha
  obtain ⟨i1,i2⟩:=kz n1
  obtain ⟨i3,i4⟩:=kz n3
  rw [i2,List.getElem?_set_ne (by omega)] at i3
  refine ⟨h.set (h0 + ka) y,n4 _ _ (qed i3),n2 _ _ ?_⟩
  rw [qed (by rw [List.getElem?_set_ne (by omega)]; exact i1),i4,i2,List.set_comm _ _ (by omega)]
 ·obtain ⟨x,n1,n2⟩:=Hb
  obtain ⟨i1,i2⟩:=kz n1
  rcases hca with rfl | rfl | rfl
  ·obtain ⟨h3,h4⟩:=Ha
   refine ⟨h,h4 h (fun b hb=>?_),by rw [h3,hat]; exact hFb⟩
   rw [i2,List.getElem?_set_ne (Ne.symm (qfb hb hal))]
  ·obtain ⟨b,y,hb,hs,h4⟩:=Ha
   obtain ⟨s1,s2⟩:=qct hs
   have hne:=qfb hb hal
   rw [i2,List.length_set] at s1
   refine ⟨h.set b y,h4 _ _ (by rw [i2,List.getElem?_set_ne (Ne.symm hne)]) (qgf s1),n2 _ _ ?_⟩
   rw [qed (by rw [List.getElem?_set_ne hne]; exact i1),s2,i2,List.set_comm _ _ hne]
  ·obtain ⟨b,cs,v,o,hb,hc,hv,hs,h4⟩:=Ha
   have hne:=qfb hb hal
   rw [i2,List.getElem?_set_ne (Ne.symm hne)] at hc
   refine ⟨_,h4 _ _ hc hv,n2 _ _ ?_⟩
   rw [qed (by rw [List.getElem?_set_ne hne]; exact i1),hs,i2,List.set_comm _ _ hne]
 ·obtain ⟨y,n3,n4⟩:=Ha
  obtain ⟨i3,i4⟩:=kz n3
  rcases hcb with rfl | rfl | rfl
  ·obtain ⟨h1,h2⟩:=Hb
   refine ⟨ra.heap,by rw [hat,← hFa,h1],h2 _ (fun b hb=>?_)⟩
   rw [i4,h1,List.getElem?_set_ne (Ne.symm (qfb hb hal))]
  ·obtain ⟨b,x,hb,hs,h2⟩:=Hb
   obtain ⟨s1,s2⟩:=qct hs
   have hne:=qfb hb hal
   rw [s2,List.getElem?_set_ne hne] at i3
   refine ⟨h.set (h0 + ka) y,n4 _ _ (qed i3),h2 _ _ (by rw [List.getElem?_set_ne (Ne.symm hne)]) ?_⟩
   rw [qgf (by rw [List.length_set]; exact s1),i4,s2,List.set_comm _ _ (Ne.symm hne)]
  ·obtain ⟨b,cs,v,o,hb,hc,hv,hs,h2⟩:=Hb
   have hne:=qfb hb hal
   rw [hs,List.getElem?_set_ne hne] at i3
   refine ⟨h.set (h0 + ka) y,n4 _ _ (qed i3),?_⟩
   rw [h2 _ cs (by rw [List.getElem?_set_ne (Ne.symm hne)]; exact hc) hv,i4,hs,List.set_comm _ _ (Ne.symm hne)]
 ·obtain ⟨b,cs,v,o,hb,hc,hv,hs,h2⟩:=Hb
  obtain ⟨b',cs',v',o',hb',hc',hv',hs',h4⟩:=Ha
  have hlt:b < h.length:=(List.getElem?_eq_some_iff.1 hc).1
  by_cases hbb:b'=b
  ·subst hbb
   rw [hs,List.getElem?_set_self hlt] at hc'
   cases hc'
   rw [List.getElem?_set_ne hne] at hv'
   refine ⟨h.set b' (.cells (cs.set ka (v',false))),h4 h cs hc hv',?_⟩
   rw [h2 _ (cs.set ka (v',false)) (by rw [List.getElem?_set_self hlt]) (by rw [List.getElem?_set_ne (Ne.symm hne)]; exact hv),hs',hs]
   simp only [List.set_set]
   rw [List.set_comm _ _ hne]
  ·rw [hs,List.getElem?_set_ne (Ne.symm hbb)] at hc'
   refine ⟨h.set b' (.cells (cs'.set ka (v',false))),h4 h cs' hc' hv',?_⟩
   rw [h2 _ cs (by rw [List.getElem?_set_ne hbb]; exact hc) hv,hs',hs,List.set_comm _ _ hbb]
end
section
variable {p:ju} {xc:XC} {h0:Nat}
def eff (p:ju) (xc:XC) (h0:Nat) (o:AOper) (e:Env) (h:qk):Option ORes:=
 match qbc e o.guard with
 | some true=>qg p xc h0 o.al e h o.op
 | some false=>some ⟨.undef,false,none,h⟩
 | none=>none
def qcn (o:AOper) (e:Env) (r:ORes):Env:=qbu (yd e r.strip) o.dst r.v r.own
theorem qcc (o:AOper) (st:ASt):yq p xc h0 o st=(eff p xc h0 o st.env st.heap).map fun r=>⟨qcn o st.env r,r.heap⟩:=by
 unfold yq eff
 cases hg:qbc st.env o.guard with
 | none=>rfl
 | some b=>
  cases b with
  | false=>rfl
  | true=>
   simp only []
   cases qg p xc h0 o.al st.env st.heap o.op <;> rfl
theorem qu7 {e e':Env} {g:Option (Nat × Bool)} (h:Agree (match g with | some g=>[g.1] | none=>[]) e e'):qbc e g=qbc e' g:=by
 cases g with
 | none=>rfl
 | some g=>simp only [qbc,h g.1 (by simp)]
theorem qnb {o:AOper} {e e':Env} {h:qk} (ha:Agree o.reads e e'):eff p xc h0 o e h=eff p xc h0 o e' h:=by
 have h1:Agree o.op.reads e e':=(Agree.app ha).1
 have h2:=(Agree.app ha).2
 simp only [eff,qu7 h2,qv8 h1]
theorem qzr {h0 r:Nat} {h:qk} {v:AVal} {o:Bool} {res:ORes} (hs:qb2 h0 h r v o=some res):res.strip=none:=by
 unfold qb2 at hs
 simp only [Bool.cond_eq_ite,val] at hs
 repeat' split at hs
 all_goals first
  | (cases hs; done)
  | (cases hs; rfl)
theorem qu1 {al:Option (List Nat)} {e:Env} {h:qk} {op:AOp} {r:ORes} (hs:qg p xc h0 al e h op=some r) {s:Nat} (hr:r.strip=some s):s∈op.strips:=by
 have own:∀ {x:qu},zh e x=some s→s∈zb x:=by
  intro x h
  obtain ⟨rfl,_⟩:=qgo h
  simp [zb]
 have vnone:∀ {x:AVal},val h x=some r→False:=fun hv=>by rw [jf hv] at hr; cases hr
 have vonone:∀ {x:Option AVal},qav h x=some r→False:=fun hv=>by obtain ⟨_,_,h1⟩:=qbz hv; rw [h1] at hr; cases hr
 cases op with
 | take t=>
  simp only [qg,qr] at hs
  split at hs
  ·cases hs; simp at hr; simp [AOp.strips,hr]
  ·cases hs
 | append rk sz b x y=>
  cases rk with
  | some rk=>
   simp only [qg,qw,Bool.cond_eq_ite] at hs
   repeat' split at hs
   all_goals first
    | (cases hs; done)
    | (cases hs; exact own hr)
  | none=>
   simp only [qg,qr,Bool.cond_eq_ite] at hs
   repeat' split at hs
   all_goals first
    | (cases hs; done)
    | (cases hs; exact own hr)
 | store n x y=>
  simp only [qg,qw,Bool.cond_eq_ite] at hs
  repeat' split at hs
  all_goals first
   | (cases hs; done)
   | exact (vnone hs).elim
   | (rename_i ht _ _ _ _; cases hs; simp only [Option.some.injEq] at hr; subst hr; exact own ht)
   | (unfold val at hs; cases hs; cases hr; done)
   | skip
 | mkslice rk sz b z n c=>
  cases rk with
  | some rk=>
   simp only [qg,qw,Bool.cond_eq_ite] at hs
   repeat' split at hs
   all_goals first
    | (cases hs; done)
    | exact (vnone hs).elim
    | (unfold val at hs; cases hs; cases hr; done)
  | none=>
   simp only [qg,qr,Bool.cond_eq_ite] at hs
   repeat' split at hs
   all_goals first
    | (cases hs; done)
    | (cases hs; cases hr; done)
 | call md f l=>
  cases md <;> simp only [qg,yr,Bool.cond_eq_ite] at hs
  all_goals
   repeat' split at hs
  all_goals first
   | (cases hs; done)
   | exact (vnone hs).elim
   | (cases hs; cases hr; done)
   | (rw [qzr hs] at hr; cases hr; done)
 | _=>
  simp only [qg,qr,yp,qw,Bool.cond_eq_ite] at hs
  repeat' split at hs
  all_goals first
   | (cases hs; done)
   | exact (vnone hs).elim
   | exact (vonone hs).elim
   | (cases hs; cases hr; done)
   | (unfold val at hs; cases hs; cases hr; done)
theorem qq2 {o:AOper} {e:Env} {h:qk} {r:ORes} (hs:eff p xc h0 o e h=some r) {s:Nat} (hr:r.strip=some s):s∈o.op.strips:=by
 unfold eff at hs
 split at hs
 ·exact qu1 hs hr
 ·cases hs; cases hr
 ·cases hs
theorem qb8 {s:Nat} {x:AVal × Bool} {e:Env}:jp s ((s,x)::e)=some x:=by
 simp only [jp,Nat.beq_refl,cond_true]
theorem qer {s t:Nat} {x:AVal × Bool} {e:Env} (h:s ≠ t):jp s ((t,x)::e)=jp s e:=by
 have:Nat.beq t s=false:=by
  cases hb:Nat.beq t s with
  | false=>rfl
  | true=>exact absurd (Nat.eq_of_beq_eq_true hb).symm h
 simp only [jp,this,cond_false]
theorem qg0 {s:Nat} {e:Env} {x:Option Nat} (h:∀ t,x=some t→s ≠ t):jp s (yd e x)=jp s e:=by
 cases x with
 | none=>rfl
 | some t=>
  simp only [yd]
  split
  ·exact qer (h t rfl)
  ·rfl
theorem qqt {s:Nat} {e e':Env} {x:Option Nat} (h:jp s e=jp s e'):jp s (yd e x)=jp s (yd e' x):=by
 cases x with
 | none=>exact h
 | some t=>
  by_cases hst:s=t
  ·subst hst
   simp only [yd]
   rw [← h]
   cases hl:jp s e with
   | none=>simp only []; rw [hl,← h,hl]
   | some y=>simp only []; rw [qb8,qb8]
  ·rw [qg0 (fun u hu=>by cases hu; exact hst),qg0 (fun u hu=>by cases hu; exact hst)]
   exact h
theorem qjq {s:Nat} {e:Env} {d:Option Nat} {v:AVal} {o:Bool} (h:∀ t,d=some t→s ≠ t):jp s (qbu e d v o)=jp s e:=by
 cases d with
 | none=>rfl
 | some t=>exact qer (h t rfl)
theorem qto {s:Nat} {e e':Env} {d:Option Nat} {v:AVal} {o:Bool} (h:jp s e=jp s e'):jp s (qbu e d v o)=jp s (qbu e' d v o):=by
 cases d with
 | none=>exact h
 | some t=>
  by_cases hst:s=t
  ·subst hst; simp only [qbu]; rw [qb8,qb8]
  ·rw [qjq (fun u hu=>by cases hu; exact hst),qjq (fun u hu=>by cases hu; exact hst)]; exact h
theorem qd5 {o:AOper} {s:Nat} {e e':Env} {r:ORes} (h:jp s e=jp s e'):jp s (qcn o e r)=jp s (qcn o e' r):=qto (qqt h)
theorem qbq {o:AOper} {s:Nat} {e:Env} {r:ORes} (hr:∀ t,r.strip=some t→t∈o.op.strips) (h:s ∉ o.writes):jp s (qcn o e r)=jp s e:=by
 unfold qcn
 rw [qjq,qg0]
 ·intro t ht hst
  exact h (List.mem_append_right _ (hst ▸ hr t ht))
 ·intro t ht hst
  exact h (List.mem_append_left _ (by rw [ht,hst]; simp))
theorem q6g {o:AOper} {e:Env} {r:ORes} {h:qk}:qcn o e (r.at h)=qcn o e r:=rfl
def Eqv (a b:ASt):Prop:=a.heap=b.heap∧∀ s,jp s a.env=jp s b.env
theorem Eqv.refl (a:ASt):Eqv a a:=⟨rfl,fun _=>rfl⟩
theorem Eqv.trans {a b c:ASt} (h:Eqv a b) (k:Eqv b c):Eqv a c:=⟨h.1.trans k.1,fun s=>(h.2 s).trans (k.2 s)⟩
theorem qtg {o:AOper} {a b a':ASt} (h:Eqv a b) (hs:yq p xc h0 o a=some a'):∃ b',yq p xc h0 o b=some b'∧Eqv a' b':=by
 rw [qcc] at hs
 obtain ⟨r,hr,rfl⟩:=Option.map_eq_some_iff.1 hs
 rw [qnb (e':=b.env) (fun s _=>h.2 s),h.1] at hr
 refine ⟨⟨qcn o b.env r,r.heap⟩,by rw [qcc,hr]; rfl,rfl,fun s=>qd5 (h.2 s)⟩
theorem qq8:∀ {l:List AOper} {a b a':ASt},Eqv a b→qaq p xc h0 l a=some a'→∃ b',qaq p xc h0 l b=some b'∧Eqv a' b'
 | [],a,b,a',h,hs=>by simp only [qaq,Option.some.injEq] at hs ⊢; subst hs; exact ⟨b,rfl,h⟩
 | o::l,a,b,a',h,hs=>by
  simp only [qaq] at hs
  split at hs
  ·rename_i a1 h1
   obtain ⟨b1,k1,k2⟩:=qtg h h1
   obtain ⟨b',k3,k4⟩:=qq8 k2 hs
   exact ⟨b',by simp only [qaq,k1,k3],k4⟩
  ·cases hs
theorem q4p {o:AOper} {e:Env} {h:qk} {r:ORes} (hs:eff p xc h0 o e h=some r):∃ c k,HB h0 o.al (eff p xc h0 o e) h r c k∧(c=.pure∨(c=o.op.cl∧k=o.op.rank)):=by
 unfold eff at hs
 cases hg:qbc e o.guard with
 | none=>rw [hg] at hs; cases hs
 | some b=>
  cases b with
  | false=>
   rw [hg] at hs
   cases hs
   exact ⟨.pure,0,⟨rfl,fun h'=>by simp only [eff,hg]; rfl⟩,.inl rfl⟩
  | true=>
   rw [hg] at hs
   have:=q3z hs
   have heq:(fun h=>qg p xc h0 o.al e h o.op)=eff p xc h0 o e:=by
    funext h; simp only [eff,hg]
   rw [heq] at this
   exact ⟨_,_,this,.inr ⟨rfl,rfl⟩⟩
theorem q2d {a b:AOper} (h:q25 a b=true):a.op.cl=.pure∨b.op.cl=.pure∨a.op.cl=.frz∨b.op.cl=.frz∨(a.op.cl=.read∧b.op.cl=.read)∨(a.op.cl=.alloc∧b.op.cl=.alloc∧a.op.rank ≠ b.op.rank) ∨
  (a.op.cl=.alloc∧(b.op.cl=.read∨b.op.cl=.write∨b.op.cl=.take)∧qcl b.al a.op.rank=false)∨((a.op.cl=.read∨a.op.cl=.write∨a.op.cl=.take)∧b.op.cl=.alloc∧qcl a.al b.op.rank=false)∨(a.op.cl=.take∧b.op.cl=.take∧a.op.rank ≠ b.op.rank)∨((a.op.cl=.read∨a.op.cl=.write∨a.op.cl=.take)∧(b.op.cl=.read∨b.op.cl=.write∨b.op.cl=.take)∧qhn a.al b.al=true):=by
 unfold q25 at h
 rw [Bool.or_eq_true] at h
 rcases h with h | h
 ·simp only [Bool.and_eq_true] at h
  obtain ⟨⟨h1,h2⟩,h3⟩:=h
  have hb:∀ {c:Cls},c.box=true→c=.read∨c=.write∨c=.take:=fun {c} hc=>by cases c <;> first | (cases hc; done) | simp
  simp only [hb h1,hb h2,h3,and_self,or_true]
 cases ha:a.op.cl <;> cases hb:b.op.cl <;> simp_all
theorem qgy {a b:List Nat} (h:qie a b=true) {s:Nat} (hs:s∈a):s ∉ b:=by
 unfold qie at h
 rw [List.all_eq_true] at h
 have:=h s hs
 simpa using this
theorem jr4 {a b:AOper} {st s1 s2:ASt} (hm:qfg b a=true) (h1:yq p xc h0 b st=some s1) (h2:yq p xc h0 a s1=some s2):
  ∃ t1 t2,yq p xc h0 a st=some t1∧yq p xc h0 b t1=some t2∧Eqv s2 t2:=by
 rw [qcc] at h1
 obtain ⟨rb,hb,rfl⟩:=Option.map_eq_some_iff.1 h1
 rw [qcc] at h2
 obtain ⟨ra,ha,rfl⟩:=Option.map_eq_some_iff.1 h2
 simp only [qfg,Bool.and_eq_true] at hm
 obtain ⟨⟨⟨hc,d1⟩,d2⟩,d3⟩:=hm
 have sb:∀ t,rb.strip=some t→t∈b.op.strips:=fun t ht=>qq2 hb ht
 have sa:∀ t,ra.strip=some t→t∈a.op.strips:=fun t ht=>qq2 ha ht
 -- the later one reads nothing that the earlier one writes
 have ha':eff p xc h0 a st.env rb.heap=some ra:=by
  rw [← ha]
  refine qnb fun s hs=>(qbq sb ?_).symm
  exact fun hw=>qgy d1 hw hs
 obtain ⟨cb,kb,Hb,ob⟩:=q4p hb
 obtain ⟨ca,ka,Ha,oa⟩:=q4p ha'
 have hap:((cb=.read∨cb=.write∨cb=.take)∧(ca=.read∨ca=.write∨ca=.take)∧qhn b.al a.al=true)∨(cb=.pure∨ca=.pure∨(cb=.read∧ca=.read)∨(cb=.alloc∧ca=.alloc∧kb ≠ ka)∨(cb=.alloc∧(ca=.read∨ca=.write∨ca=.take)∧qcl a.al kb=false)∨((cb=.read∨cb=.write∨cb=.take)∧ca=.alloc∧qcl b.al ka=false)∨(cb=.take∧ca=.take∧kb ≠ ka)):=by
  rcases ob with rfl | ⟨rfl,rfl⟩
  ·exact .inr (.inl rfl)
  rcases oa with rfl | ⟨rfl,rfl⟩
  ·exact .inr (.inr (.inl rfl))
  rcases q2d hc with h | h | h | h | h | h | h | h | h | h
  ·exact .inr (.inl h)
  ·exact .inr (.inr (.inl h))
  ·rw [h] at Hb; exact Hb.elim
  ·rw [h] at Ha; exact Ha.elim
  ·exact .inr (.inr (.inr (.inl h)))
  ·exact .inr (.inr (.inr (.inr (.inl h))))
  ·exact .inr (.inr (.inr (.inr (.inr (.inl h)))))
  ·exact .inr (.inr (.inr (.inr (.inr (.inr (.inl h))))))
  ·exact .inr (.inr (.inr (.inr (.inr (.inr (.inr h))))))
  ·exact .inl h
 have hsw:∃ h1,eff p xc h0 a st.env st.heap=some (ra.at h1)∧eff p xc h0 b st.env h1=some (rb.at ra.heap):=by
  rcases hap with ⟨q1,q2,q3⟩ | hok
  ·exact q8e hb ha' Hb Ha q1 q2 q3
  ·exact jbx hb ha' Hb Ha hok
 obtain ⟨h3,k1,k2⟩:=hsw
 have k2':eff p xc h0 b (qcn a st.env (ra.at h3)) h3=some (rb.at ra.heap):=by
  rw [← k2]
  refine qnb fun s hs=>qbq (fun t ht=>sa t ht) ?_
  exact fun hw=>qgy d3 hw hs
 refine ⟨⟨qcn a st.env (ra.at h3),h3⟩,⟨qcn b (qcn a st.env (ra.at h3)) (rb.at ra.heap),ra.heap⟩,by rw [qcc,k1]; rfl,by rw [qcc]; simp only [k2']; rfl,rfl,fun s=>?_⟩
 simp only [q6g]
 by_cases hw:s∈a.writes
 ·have hnb:s ∉ b.writes:=fun h=>qgy d2 h hw
  rw [qbq sb hnb]
  exact qd5 (qbq sb hnb)
 ·rw [qbq sa hw]
  exact qd5 (qbq sa hw).symm
theorem qsj:∀ {l1 l2:List AOper} {a:AOper} {st s2:ASt},(∀ b∈l1,qfg b a=true)→qaq p xc h0 (l1++a::l2) st=some s2 →
  ∃ t1 t2,yq p xc h0 a st=some t1∧qaq p xc h0 (l1++l2) t1=some t2∧Eqv s2 t2
 | [],l2,a,st,s2,_,hs=>by
  simp only [List.nil_append,qaq] at hs
  split at hs
  ·rename_i t1 h1; exact ⟨t1,s2,h1,hs,Eqv.refl _⟩
  ·cases hs
 | b::l1,l2,a,st,s2,hm,hs=>by
  simp only [List.cons_append,qaq] at hs
  split at hs
  ·rename_i s h1
   obtain ⟨u1,u2,h2,h3,h4⟩:=qsj (fun c hc=>hm c (by simp [hc])) hs
   obtain ⟨t1,t2,h5,h6,h7⟩:=jr4 (hm b (by simp)) h1 h2
   obtain ⟨u3,h8,h9⟩:=qq8 h7 h3
   exact ⟨t1,u3,h5,by simp only [List.cons_append,qaq,h6,h8],h4.trans h9⟩
  ·cases hs
end
def StOk (P:Program) (w0:World) (C0 C:Ctx) (nt:Nat) (st:ASt) (a:Act) (w:World):Prop:=
 a.tmps.size=nt∧∃ C' ω',C.le C'∧Marks C' w0.heap.size a.defers∧MInv P C' ω' w0 C0 st.heap w∧EnvRel C' ω' w w0.heap.size st.env a.tmps
structure qr5 (P:Program) (nt:Nat) (ops:Array Oper) (o:Oper) (ao:AOper):Prop where
 op:∃ h md r,(cOp P h md r o.dst o.op).getD .bad=ao.op
 guard:qnj ops o.guard=some ao.guard
 dst:ao.dst=o.dst
 fits:∀ d,o.dst=some d→d < nt
section
variable {P:Program} {p:ju} {xc:XC} {C C0:Ctx} {w0:World} {nt h0:Nat} {ops:Array Oper} {ρ:Option Nat}
theorem StOk.eqv {st st':ASt} {a:Act} {w:World} (h:StOk P w0 C0 C nt st a w) (he:Eqv st st'):StOk P w0 C0 C nt st' a w:=by
 obtain ⟨h1,C',ω',h3,h2,h4,h5⟩:=h
 exact ⟨h1,C',ω',h3,h2,he.1 ▸ h4,fun s x hx=>h5 s x (by rw [he.2 s]; exact hx)⟩
theorem EnvRel.putAt {ω:Nat→Option Loc} {w:World} {B d:Nat} {e:Env} {tmps:Array Value} {v:AVal} {u:Value} {o:Bool} (he:EnvRel C ω w B e tmps) (hd:d < tmps.size) (hr:Rep C v u) (ho:o=true→OwnV C ω w B (.slot d) v u):EnvRel C ω w B ((d,v,o)::e) (tmps.setIfInBounds d u):=by
 intro s x hx
 by_cases hsd:s=d
 ·subst hsd
  rw [qb8] at hx
  cases hx
  exact ⟨u,by simp [hd],hr,ho⟩
 ·rw [qer hsd] at hx
  obtain ⟨y,h1,h2,h3⟩:=he s x hx
  exact ⟨y,by rw [Array.getElem?_setIfInBounds_ne (Ne.symm hsd)]; exact h1,h2,h3⟩
theorem q4b {ao:AOper} {st:ASt} {a:Act} {w:World} {C1:Ctx} {ω1:Nat→Option Loc} {e:Env} {h:qk} {v:AVal} {u:Value} {own:Bool} {o:Oper} (hd:ao.dst=o.dst) (hf:∀ d,o.dst=some d→d < nt) (hs:a.tmps.size=nt) (hdf:Marks C1 w0.heap.size a.defers) (hle:C.le C1) (m:MInv P C1 ω1 w0 C0 h w) (he:EnvRel C1 ω1 w w0.heap.size e a.tmps) (hr:Rep C1 v u) (ho:own=true→OwnV C1 ω1 w w0.heap.size (.slot (o.dst.getD 0)) v u):
  StOk P w0 C0 C nt ⟨qbu e ao.dst v own,h⟩ (a.put o.dst u) w:=by
 rw [hd]
 cases hod:o.dst with
 | none=>exact ⟨hs,C1,ω1,hle,hdf,m,he⟩
 | some d=>
  rw [hod] at ho
  refine ⟨by simpa [Act.put] using hs,C1,ω1,hle,hdf,m,?_⟩
  exact he.putAt (hs ▸ hf d hod) hr ho
theorem quq {o:Oper} {ao:AOper} {e:Env} {tmps:Array Value} {ω:Nat→Option Loc} {w:World} {B:Nat} {b:Bool} (he:EnvRel C ω w B e tmps) (hg:qnj ops o.guard=some ao.guard) (hb:qbc e ao.guard=some b):Region.wanted o (yielded ops tmps)=b:=by
 unfold Region.wanted
 cases hog:o.guard with
 | none=>
  rw [hog] at hg
  simp only [qnj,Option.some.injEq] at hg
  rw [← hg] at hb
  simp only [qbc,Option.some.injEq] at hb
  exact hb
 | some g=>
  obtain ⟨j,want⟩:=g
  rw [hog] at hg
  simp only [qnj] at hg
  split at hg
  ·rename_i d hd
   have hgd:=Option.some.inj hg
   rw [← hgd] at hb
   simp only [qbc] at hb
   split at hb
   ·rename_i c ow hl
    cases hb
    obtain ⟨v,h1,h2,_⟩:=he d _ hl
    have:=h2.bool_inv
    subst this
    simp only [yielded,hd,Option.bind_some,h1]
    cases c <;> cases want <;> rfl
   ·rename_i ow hl
    cases hb
    obtain ⟨v,h1,h2,_⟩:=he d _ hl
    have hv:v=.tuple #[]:=by cases h2; rfl
    subst hv
    simp only [yielded,hd,Option.bind_some,h1]
    rfl
   ·cases hb
  ·cases hg
theorem q06 (hp':ProgOk P p) (hx:CodeOk P xc) {i:Nat} {o:Oper} {ao:AOper} {st st':ASt} {a:Act} {w:World} {Q:Exit→Act→World→Prop} {K:Act→World→Prop} (hi:ops[i]?=some o) (hr:qr5 P nt ops o ao) (hs:yq p xc h0 ao st=some st') (hst:StOk P w0 C0 C nt st a w)
  (hK:∀ a' w',StOk P w0 C0 C nt st' a' w'→K a' w'):wpOpIn (qad ρ) 0 P ops Q i K a w:=by
 obtain ⟨hsz,C1,ω1,hle,hdf,m,he⟩:=hst
 unfold wpOpIn
 rw [hi]
 simp only []
 unfold yq at hs
 split at hs
 ·rename_i hg
  rw [quq he hr.guard hg]
  simp only [if_true]
  split at hs
  ·rename_i res hres
   cases hs
   obtain ⟨h,md,r,hop⟩:=hr.op
   have hrun:ye P C1 C0 w0 a (.slot (o.dst.getD 0)) st.env o w res:=by
    cases hc:cOp P h md r o.dst o.op with
    | none=>rw [hc] at hop; simp only [Option.getD_none] at hop; rw [← hop] at hres; simp [qg,qr] at hres
    | some aop=>rw [hc] at hop; simp only [Option.getD_some] at hop; rw [← hop] at hres; exact jee hp' hx m he hc hres
   have fin:∀ v w',zo P C0 w0 C1 a.tmps (.slot (o.dst.getD 0)) st.env res v w'→K (a.put o.dst v) w':=by
    rintro v w' ⟨C2,ω2,h1,h2,h3,h4,h5⟩
    exact hK _ _ (q4b (st:=st) hr.dst hr.fits hsz (hdf.mono h1) (Ctx.le_trans hle h1) h2 h3 h4 h5)
   refine ⟨fun _ _=>trivial,?_⟩
   rw [Oper.semAt_eq _ _ _ (fun c hc=>by
    rw [hc] at hop
    simp only [cOp,Option.getD_none] at hop
    rw [← hop] at hres
    simp [qg,qr] at hres)]
   rcases hrun with ⟨v,w',h1,h2⟩ | ⟨w',h1,h2⟩ | ⟨f,args,h1,h2⟩ | ⟨l,f,tmps,assign,body,h1,h2⟩
   ·rw [h1]; exact fin v w' h2
   ·rw [h1]; exact fin undef w' h2
   ·rw [h1]
    refine ⟨fun h=>by simp [qad,Fence.wide] at h,CallsIn.mono (qrh.2 h2) ?_⟩
    rintro e w' ⟨v,rfl,hpost⟩
    exact fin v w' hpost
   ·rw [h1]
    have h2':RoundIn (qad ρ) 0 P l f tmps assign body w _:=h2
    refine ⟨fun h=>by simp [qad,Fence.wide] at h,RoundIn.mono h2' ?_⟩
    rintro e w' ⟨v,rfl,hpost⟩
    exact fin v w' hpost
  ·cases hs
 ·rename_i hg
  cases hs
  rw [quq he hr.guard hg]
  simp only [Bool.false_eq_true,if_false]
  exact ⟨fun _ _=>trivial,hK _ _ (q4b (st:=st) hr.dst hr.fits hsz hdf hle m he .undef (by simp))⟩
 ·cases hs
inductive Rels (P:Program) (nt:Nat) (ops:Array Oper):List Nat→List AOper→Prop where
 | nil:Rels P nt ops [] []
 | cons {i:Nat} {o:Oper} {ao:AOper} {l:List Nat} {lo:List AOper} (hi:ops[i]?=some o) (h:qr5 P nt ops o ao) (t:Rels P nt ops l lo):Rels P nt ops (i::l) (ao::lo)
theorem q0p (hp':ProgOk P p) (hx:CodeOk P xc) {Q:Exit→Act→World→Prop} {st':ASt} (hQ:∀ a' w',StOk P w0 C0 C nt st' a' w'→Q .normal a' w'):∀ {l:List Nat} {lo:List AOper} {st:ASt} {a:Act} {w:World},Rels P nt ops l lo→qaq p xc h0 lo st=some st'→StOk P w0 C0 C nt st a w→wpOpsIn (qad ρ) 0 P ops Q l a w
 | [],_,st,a,w,.nil,hs,hst=>by
  simp only [qaq,Option.some.injEq] at hs
  subst hs
  exact hQ _ _ hst
 | i::l,_,st,a,w,.cons hi h t,hs,hst=>by
  simp only [qaq] at hs
  split at hs
  ·rename_i s1 h1
   rw [wpOpsIn_cons]
   exact q06 hp' hx hi h h1 hst fun a' w' hst'=>q0p hp' hx hQ t hs hst'
  ·cases hs
theorem quk {h:qv} {id:Nat} {bef:Array Nat} {draw:Bool}:∀ {os:List Oper} {i:Nat} {rs rs':List (Nat × Nat)} {l:List AOper},qxa P h nt id ops bef draw os i rs=some (l,rs')→(∀ j,os[j]?=ops[i + j]?)→Rels P nt ops (List.range' i os.length) l
 | [],i,rs,rs',l,hc,_=>by
  simp only [qxa,Option.some.injEq,Prod.mk.injEq] at hc
  rw [← hc.1]; exact .nil
 | o::os,i,rs,rs',l,hc,hos=>by
  simp only [qxa] at hc
  split at hc
  ·rename_i g hg
   split at hc
   ·rename_i hfit
    split at hc
    ·rename_i l1 rs1 hrest
     simp only [Option.some.injEq,Prod.mk.injEq] at hc
     rw [← hc.1]
     refine .cons (o:=o) (by rw [← Nat.add_zero i,← hos 0]; rfl) ⟨⟨h,q4h h id i,rs.length,rfl⟩,hg,rfl,fun d hd=>?_⟩ ?_
     ·rw [hd] at hfit
      simpa using hfit
     ·exact quk hrest (fun j=>by rw [show i + 1 + j=i + (j + 1) from by omega,← hos (j + 1)]; rfl)
    ·cases hc
   ·cases hc
  ·cases hc
theorem MInv.holes {ω:Nat→Option Loc} {w:World} {hp:qk} (m:MInv P C ω w0 C0 hp w) (n:Nat):MInv P C ω w0 C0 (hp++List.replicate n .hole) w:=
 { m with
  lt:=fun b r hb=>⟨(m.lt b r hb).1,by rw [List.length_append]; have:=(m.lt b r hb).2; omega⟩
  box:=fun b x r hx hb=>m.box b x r (by rw [List.getElem?_append_left (m.lt b r hb).2] at hx; exact hx) hb }
theorem qxt {l:List Nat} {e:Env} {s:Nat} {x:AVal × Bool}:jp s (qb5 e l)=some x→jp s e=some x:=by
 induction l with
 | nil=>simp [qb5,jp]
 | cons t l ih=>
  intro h
  simp only [qb5] at h
  split at h
  ·rename_i y hy
   by_cases hst:s=t
   ·subst hst; rw [qb8] at h; rw [hy]; exact h
   ·rw [qer hst] at h; exact ih h
  ·exact ih h
theorem StOk.keep {st:ASt} {a:Act} {w:World} {k:Option (List Nat)} (h:StOk P w0 C0 C nt st a w):StOk P w0 C0 C nt (qh9 st k) a w:=by
 cases k with
 | none=>exact h
 | some l=>
  obtain ⟨h1,C',ω',h3,h2,h4,h5⟩:=h
  exact ⟨h1,C',ω',h3,h2,h4,fun s x hx=>h5 s x (qxt hx)⟩
theorem qpn {listed:Array Bool} {i j:Nat} {d:Bool}:(listed.setIfInBounds i true).getD j d=if i=j∧j < listed.size then true else listed.getD j d:=by
 simp only [Array.getD_eq_getD_getElem?,Array.getElem?_setIfInBounds]
 by_cases hij:i=j
 ·subst hij
  by_cases hl:i < listed.size
  ·simp [hl]
  ·simp [hl]
 ·simp [hij]
theorem Eqv.symm' {a b:ASt} (h:Eqv a b):Eqv b a:=⟨h.1.symm,fun s=>(h.2 s).symm⟩
def pick (full:List AOper) (l:List Nat):List AOper:=l.map fun i=>full.getD i default
theorem Rels.get {l:List Nat} {lo:List AOper} (h:Rels P nt ops l lo):l.length=lo.length∧∀ k i,l[k]?=some i→∃ o,ops[i]?=some o∧qr5 P nt ops o (lo.getD k default):=by
 induction h with
 | nil=>exact ⟨rfl,by simp⟩
 | cons hi h t ih=>
  refine ⟨by simp [ih.1],fun k i hk=>?_⟩
  cases k with
  | zero=>simp at hk; subst hk; exact ⟨_,hi,h⟩
  | succ k=>simp at hk; obtain ⟨o,h1,h2⟩:=ih.2 k i hk; exact ⟨o,h1,by simpa using h2⟩
theorem jcj {full:List AOper} {bef:Array Nat} (hp':ProgOk P p) (hx:CodeOk P xc) {Q:Exit→Act→World→Prop} {st':ASt} (hQ:∀ a' w',StOk P w0 C0 C nt st' a' w'→Q .normal a' w')
  (hfull:∀ i o,ops[i]?=some o→qr5 P nt ops o (full.getD i default)) (hpass:∀ i j,i < j→j < ops.size→(bef.getD j 0).testBit i=false→qfg (full.getD i default) (full.getD j default)=true)
  (hbef:∀ j o i,ops[j]?=some o→i < ops.size→(bef.getD j 0).testBit i=true→∃ e∈o.after,Region.binds .any e=true∧(e.on=i∨(bef.getD e.on 0).testBit i=true))
  (hedge:∀ i o,ops[i]?=some o→∀ e∈o.after,Region.binds .any e=true→e.on < i):
  ∀ (fuel:Nat) (listed:Array Bool) (l:List Nat) (st s2:ASt) (a:Act) (w:World),listed.size=ops.size→l.Pairwise (· < ·)→(∀ i,i∈l↔i < ops.size∧listed.getD i true=false)→l.length≤fuel →
   (∀ k i,i < ops.size→listed.getD k false=true→(bef.getD k 0).testBit i=true→listed.getD i false=true)→qaq p xc h0 (pick full l) st=some s2→Eqv s2 st'→StOk P w0 C0 C nt st a w→wpAnyIn (qad ρ) 0 P .any ops Q fuel listed a w:=by
 intro fuel
 induction fuel with
 | zero=>
  intro listed l st s2 a w hsz hsorted hmem hlen hclosed hs heq hst
  have hl:l=[]:=List.length_eq_zero_iff.1 (by omega)
  subst hl
  simp only [pick,List.map_nil,qaq,Option.some.injEq] at hs
  subst hs
  refine ⟨?_,hQ _ _ (hst.eqv heq)⟩
  cases hr:Region.ready .any ops listed with
  | nil=>rfl
  | cons i rs=>
   have hi:i∈Region.ready .any ops listed:=by rw [hr]; simp
   obtain ⟨h1,o,ho,_⟩:=mem_ready.1 hi
   have:=(hmem i).2 ⟨(Array.getElem?_eq_some_iff.1 ho).1,h1⟩
   cases this
 | succ fuel ih=>
  intro listed l st s2 a w hsz hsorted hmem hlen hclosed hs heq hst
  refine ⟨fun hr=>?_,fun i hi=>?_⟩
  ·cases l with
   | nil=>
    simp only [pick,List.map_nil,qaq,Option.some.injEq] at hs
    subst hs
    exact hQ _ _ (hst.eqv heq)
   | cons i l=>
    exfalso
    obtain ⟨h1,h2⟩:=(hmem i).1 (by simp)
    have hi:i∈Region.ready .any ops listed:=by
     refine mem_ready.2 ⟨h2,ops[i],Array.getElem?_eq_getElem h1,fun e he hb=>?_⟩
     have hlt:=hedge i _ (Array.getElem?_eq_getElem h1) e he hb
     have hne:e.on ∉ i::l:=fun hm=>by
      rcases List.mem_cons.1 hm with h | h
      ·omega
      ·have:=(List.pairwise_cons.1 hsorted).1 _ h; omega
     have h3:¬ (listed.getD e.on true=false):=fun h=>hne ((hmem e.on).2 ⟨by omega,h⟩)
     have hlt2:e.on < listed.size:=by omega
     simp only [Array.getD_eq_getD_getElem?,Array.getElem?_eq_getElem hlt2,Option.getD_some] at h3 ⊢
     simpa using h3
    rw [hr] at hi
    cases hi
  ·obtain ⟨h1,o,ho,hall⟩:=mem_ready.1 hi
   have hlt:=(Array.getElem?_eq_some_iff.1 ho).1
   have him:i∈l:=(hmem i).2 ⟨hlt,h1⟩
   obtain ⟨l1,l2,rfl⟩:=List.append_of_mem him
   have hunl:∀ k,k∈l1++i::l2→listed.getD k false=true→False:=fun k hk hl=>by
    obtain ⟨k1,k2⟩:=(hmem k).1 hk
    have hlt2:k < listed.size:=by omega
    simp only [Array.getD_eq_getD_getElem?,Array.getElem?_eq_getElem hlt2,Option.getD_some] at hl k2
    rw [hl] at k2; cases k2
   have hbi:∀ k,k < ops.size→(bef.getD i 0).testBit k=true→listed.getD k false=true:=fun k hk hb=>by
    obtain ⟨e,he,hb1,h2 | h2⟩:=hbef i o k ho hk hb
    ·rw [← h2]; exact hall e he hb1
    ·exact hclosed e.on k hk (hall e he hb1) h2
   have hm:∀ b∈pick full l1,qfg b (full.getD i default)=true:=by
    intro b hb
    obtain ⟨k,hk,rfl⟩:=List.mem_map.1 hb
    have hki:k < i:=(List.pairwise_append.1 hsorted).2.2 k hk i (by simp)
    refine hpass k i hki hlt ?_
    cases hbit:(bef.getD i 0).testBit k with
    | false=>rfl
    | true=>exact (hunl k (by simp [hk]) (hbi k (by omega) hbit)).elim
   have hpk:pick full (l1++i::l2)=pick full l1++full.getD i default::pick full l2:=by simp [pick]
   rw [hpk] at hs
   obtain ⟨t1,t2,g1,g2,g3⟩:=qsj hm hs
   refine q06 hp' hx ho (hfull i o ho) g1 hst fun a' w' hst'=>?_
   refine ih (listed.setIfInBounds i true) (l1++l2) t1 t2 a' w' (by simpa using hsz) ?_ ?_ ?_ ?_ (by rw [show pick full (l1++l2)=pick full l1++pick full l2 from by simp [pick]]; exact g2) (Eqv.trans (Eqv.symm' g3) heq) hst'
   ·exact hsorted.sublist (List.Sublist.append (List.Sublist.refl _) (List.sublist_cons_self _ _))
   ·intro k
    rw [qpn]
    have hnod:i ∉ l1∧i ∉ l2:=by
     have h:=List.pairwise_append.1 hsorted
     refine ⟨fun hi1=>?_,fun hi2=>?_⟩
     ·have:=h.2.2 i hi1 i (by simp); omega
     ·have:=(List.pairwise_cons.1 h.2.1).1 i hi2; omega
    constructor
    ·intro hk
     have hki:k ≠ i:=fun h=>by
      subst h
      rcases List.mem_append.1 hk with h | h
      ·exact hnod.1 h
      ·exact hnod.2 h
     have:=(hmem k).1 (by rcases List.mem_append.1 hk with h | h <;> simp [h])
     rw [if_neg (by omega)]
     exact this
    ·rintro ⟨k1,k2⟩
     split at k2
     ·cases k2
     ·rename_i hne
      have hki:k ≠ i:=fun h=>hne ⟨h.symm,by omega⟩
      have:=(hmem k).2 ⟨k1,k2⟩
      rcases List.mem_append.1 this with h | h
      ·simp [h]
      ·rcases List.mem_cons.1 h with h | h
       ·exact absurd h hki
       ·simp [h]
   ·simp at hlen ⊢; omega
   ·intro k j hj hk hb
    rw [qpn] at hk ⊢
    split
    ·rfl
    ·split at hk
     ·rename_i hik
      rw [← hik.1] at hb
      exact hbi j hj hb
     ·exact hclosed k j hj hk hb
theorem qy0 {bef:Array Nat} {l:List AOper} (h:qwo bef l=true) {i j:Nat} (hij:i < j) (hj:j < l.length) (hb:(bef.getD j 0).testBit i=false):qfg (l.getD i default) (l.getD j default)=true:=by
 unfold qwo at h
 rw [List.all_eq_true] at h
 have h1:=h (l[j],j) (List.mem_zipIdx_iff_getElem?.2 (by simp [hj]))
 simp only [] at h1
 rw [List.all_eq_true] at h1
 have h2:=h1 (l[i]'(by omega),i) (List.mem_zipIdx_iff_getElem?.2 (by simp))
 simp only [hij,hb,decide_true,Bool.not_true,Bool.false_or] at h2
 simp only [List.getD_eq_getElem?_getD,List.getElem?_eq_getElem hj,List.getElem?_eq_getElem (show i < l.length by omega),Option.getD_some]
 exact h2
theorem q1d {bef:Array Nat} (h:q11 bef ops=true) {j i:Nat} {o:Oper} (ho:ops[j]?=some o) (hi:i < ops.size) (hb:(bef.getD j 0).testBit i=true):∃ e∈o.after,Region.binds .any e=true∧(e.on=i∨(bef.getD e.on 0).testBit i=true):=by
 unfold q11 at h
 rw [List.all_eq_true] at h
 have h1:=h (o,j) (List.mem_zipIdx_iff_getElem?.2 (by simpa using ho))
 simp only [] at h1
 rw [List.all_eq_true] at h1
 have h2:=h1 i (List.mem_range.2 hi)
 rw [hb] at h2
 simp only [Bool.not_true,Bool.false_or,Array.any_eq_true'] at h2
 obtain ⟨e,he,h3⟩:=h2
 simp only [Bool.and_eq_true,Bool.or_eq_true,beq_iff_eq] at h3
 exact ⟨e,he,h3.1,h3.2⟩
theorem qyb (h:qtb ops=true) {i:Nat} {o:Oper} (ho:ops[i]?=some o):∀ e∈o.after,Region.binds .any e=true→e.on < i:=by
 intro e he hb
 unfold qtb at h
 rw [List.all_eq_true] at h
 have h1:=h (o,i) (List.mem_zipIdx_iff_getElem?.2 (by simpa using ho))
 simp only [Array.all_eq_true'] at h1
 have:=h1 e he
 simpa [hb] using this
theorem q3m (hp':ProgOk P p) (hx:CodeOk P xc) {id:Nat} {draw:Bool} {ca:ACode} {h:qv} {na:Nat} {l:List AOper} {keep:Option (List Nat)} (hc:qkw P h nt id ops draw=some ca) (hca:ca=.region na l keep) {st st':ASt} {x:ji} (hs:qax p xc na l keep st=some (x,st')) {ω:Nat→Option Loc} {a:Act} {w:World}
  (m:MInv P C ω w0 C0 st.heap w) (he:EnvRel C ω w w0.heap.size st.env a.tmps) (hsz:a.tmps.size=nt) (hdf:Marks C w0.heap.size a.defers):
  (Code.region id ops draw).wpIn (qad ρ) 0 P (fun e a' w'=>e=qqu x∧StOk P w0 C0 C nt st' a' w') a w:=by
 subst hca
 unfold qkw at hc
 split at hc
 ·rename_i l' rs hl
  split at hc
  ·rename_i hd
   simp only [Option.some.injEq,ACode.region.injEq] at hc
   obtain ⟨rfl,rfl,hkeep⟩:=hc
   unfold qax at hs
   split at hs
   ·rename_i s1 h1
    cases hs
    have hrels:Rels P nt ops (List.range' 0 ops.size) l':=by
     have:=quk hl (ops:=ops) (fun j=>by simp)
     simpa using this
    have hQ:∀ a' w',StOk P w0 C0 C nt s1 a' w'→(fun e a' w'=>e=qqu .normal∧StOk P w0 C0 C nt (qh9 s1 keep) a' w') Exit.normal a' w':=fun a' w' hst=>⟨rfl,hst.keep⟩
    cases draw with
    | false=>
     refine wpIn_region ?_
     rw [List.range_eq_range']
     exact q0p hp' hx hQ hrels h1 ⟨hsz,C,ω,Ctx.le_refl C,hdf,m.holes _,he⟩
    | true=>
     simp only [Bool.not_true,Bool.false_or,Bool.and_eq_true] at hd
     obtain ⟨⟨d1,d2⟩,d3⟩:=hd
     refine wpIn_region_any hp'.mixed ?_
     obtain ⟨hlen,hget⟩:=hrels.get
     have hlen':l'.length=ops.size:=by rw [← hlen]; simp
     have hfull:∀ i o,ops[i]?=some o→qr5 P nt ops o (l'.getD i default):=by
      intro i o ho
      have hi:=(Array.getElem?_eq_some_iff.1 ho).1
      obtain ⟨o',h2,h3⟩:=hget i i (by rw [List.getElem?_range' hi]; simp)
      rw [ho] at h2; cases h2; exact h3
     have hpk:pick l' (List.range ops.size)=l':=by
      apply List.ext_getElem?
      intro k
      simp only [pick,List.getElem?_map]
      by_cases hk:k < ops.size
      ·rw [List.getElem?_range hk]
       simp [List.getElem?_eq_getElem (show k < l'.length by omega)]
      ·rw [List.getElem?_eq_none (by simpa using hk),List.getElem?_eq_none (by omega)]; rfl
     refine jcj (bef:=Region.before ops) (full:=l') hp' hx hQ hfull (fun i j h2 h3 h4=>qy0 d1 h2 (by omega) h4) (fun j o i h2 h3 h4=>q1d d3 h2 h3 h4) (fun i o h2=>qyb d2 h2) ops.size _ (List.range ops.size) ⟨st.env,st.heap++List.replicate rs.length .hole⟩ s1 a _ (by simp) List.pairwise_lt_range ?_ (by simp) ?_ (by rw [hpk]; exact h1) (Eqv.refl _) ⟨hsz,C,ω,Ctx.le_refl C,hdf,(m.holes _).ext (Ext.drew w),he.ext (Ext.drew w)⟩
     ·intro i
      simp only [List.mem_range,Array.getD_eq_getD_getElem?,Array.getElem?_replicate]
      constructor
      ·intro hi; exact ⟨hi,by simp [hi]⟩
      ·exact fun hi=>hi.1
     ·intro k i hi hk
      simp only [Array.getD_eq_getD_getElem?,Array.getElem?_replicate] at hk
      split at hk <;> simp at hk
   ·cases hs
  ·cases hc
 ·cases hc
end
end Go.Abs
