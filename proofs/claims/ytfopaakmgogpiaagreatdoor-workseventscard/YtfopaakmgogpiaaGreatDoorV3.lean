/- Chapter 10. -/
import Derived.Test.YtfopaakmgogpiaaGreatDoorV0
import Derived.Test.YtfopaakmgogpiaaGreatDoorW8
import Derived.Test.YtfopaakmgogpiaaGreatDoorW3
import Derived.Test.YtfopaakmgogpiaaGreatDoorAbsL
import Derived.Test.YtfopaakmgogpiaaGreatDoorCA
set_option linter.unusedVariables false
set_option linter.unusedSimpArgs false
set_option maxRecDepth 100000
set_option maxHeartbeats 4000000
namespace Go.Z
open Go Go.Abs Go.W
theorem qit {α:Type} {f:α→AVal} {sz:Nat} (E:Enc f sz) {l:List α} {i o:Nat} {x y:α} {u:AVal} (hx:l[i]?=some x) (ho:o < sz) (hy:(f y).flat=(f x).flat.set o u) (w:Bool):((rcl f l).set (i * sz + o) (u,w)).map (·.1)=za f (l.set i y):=by
 have h:=congrArg (List.map (·.1)) (q3y E.len hx ho hy)
 rw [List.map_set] at h ⊢
 rw [show (rcl f (l.set i y)).map (·.1)=za f (l.set i y) from zy] at h
 exact h
theorem ql5 {α:Type} {f:α→AVal} {sz:Nat} (E:Enc f sz) {l:List α} {i o:Nat} {x:α} (hx:l[i]?=some x) (ho:o < sz):i * sz + o < (rcl f l).length:=by
 have h:=(qez (n:=1) (o:=o) E.len hx (by omega)).2
 simp only [rcl,cellsOf,List.length_map]
 omega
noncomputable def q1d (c:Int) (nm k:List UInt8) (x:GProd):Option GProd:=cond (decide (c=0))
 (qa (f171 x.dn nm) fun v=>some { x with dn:=v.1 })
 (qa (f173 x.dn ⟨k,c⟩ nm) fun v=>some { x with dn:=v.1 })
theorem j7t {l:List GProd} {i:Nat} {x y:GProd} {c:Int} {nm k:List UInt8} (hx:l[i]?=some x) (h:q1d c nm k x=some y):
  ∃ cs,qn pr (X pr) 170 [.ptr 0 (i * 4 + 1),.vptr (Iv c),.vptr (.fn (.func 167) [] [.vptr (.str nm)]),.vptr (.str k)] [.cells (rcl qz l)]=some (.tup [],false,[.cells cs])∧cs.map (·.1)=za qz (l.set i y):=by
 unfold q1d at h
 have ld:zh (rcl qz l) (i * 4 + 1) 1=some [sl 2 vsi x.dn]:=qe4 (o:=1) E_prod.len hx (by decide)
 have hb:=ql5 E_prod (o:=1) hx (by decide)
 rcases qd h with ⟨h1,h⟩ | ⟨h1,h⟩
 ·obtain ⟨v,hv,h⟩:=qb h
  cases h
  have w:=j9t [.cells (rcl qz l)] hv
  rcases v with ⟨v,o⟩
  have hy:(qz { x with dn:=v }).flat=(qz x).flat.set 1 (sl 2 vsi v):=rfl
  have st:jq (rcl qz l) (i * 4 + 1) [sl 2 vsi v]=some (rcl qz (l.set i { x with dn:=v })):=qbr (o:=1) E_prod.len hx (Nat.le_of_ble_eq_true rfl) (by simp only [List.all,go_sem,Bool.and_self]) rfl
  cases o with
  | true=>exact ⟨_,by rw [qk (show pr.fns 170=some c170 from rfl) (by simp)]; simp only [go_sem,seval,c170,h1,ld,w,hb] <;> rfl,qit E_prod hx (by decide) hy true⟩
  | false=>exact ⟨_,by rw [qk (show pr.fns 170=some c170 from rfl) (by simp)]; simp only [go_sem,seval,c170,h1,ld,w,st] <;> rfl,zy⟩
 ·obtain ⟨v,hv,h⟩:=qb h
  cases h
  have w:qc pr (X pr) 173 [sl 2 vsi x.dn,.agg [.str k,Iv c],.fn (.func 167) [] [.vptr (.str nm)]]=some (sl 2 vsi v.1,v.2):=zfu hv
  rcases v with ⟨v,o⟩
  have hy:(qz { x with dn:=v }).flat=(qz x).flat.set 1 (sl 2 vsi v):=rfl
  have st:jq (rcl qz l) (i * 4 + 1) [sl 2 vsi v]=some (rcl qz (l.set i { x with dn:=v })):=qbr (o:=1) E_prod.len hx (Nat.le_of_ble_eq_true rfl) (by simp only [List.all,go_sem,Bool.and_self]) rfl
  cases o with
  | true=>exact ⟨_,by rw [qk (show pr.fns 170=some c170 from rfl) (by simp)]; simp only [go_sem,seval,c170,h1,ld,w,hb] <;> rfl,qit E_prod hx (by decide) hy true⟩
  | false=>exact ⟨_,by rw [qk (show pr.fns 170=some c170 from rfl) (by simp)]; simp only [go_sem,seval,c170,h1,ld,w,st] <;> rfl,zy⟩
noncomputable def jdo (l:Option (List GProd)) (i:Int) (c:Int) (nm k:List UInt8):Option (Option (List GProd)):=chO l i (q1d c nm k)
theorem jfb {l:Option (List GProd)} {i:Int} {c:Int} {nm k:List UInt8} {r} (h:jdo l i c nm k=some r):qc pr (X pr) 178 [sl 4 qz l,Iv i,.fn (.func 236) [] [.vptr (.fn (.func 170) [] [.vptr (Iv c),.vptr (.fn (.func 167) [] [.vptr (.str nm)]),.vptr (.str k)])]]=some (sl 4 qz r,false):=by
 refine q8p (fun n x y hx hy=>?_) h
 obtain ⟨cs,h1,h2⟩:=j7t hx hy
 exact ⟨cs,by rw [qk (show pr.fns 236=some c236 from rfl) (by simp)]; simp only [go_sem,seval,c236,h1] <;> rfl,h2⟩
noncomputable def q00 (t s:qu) (x:GProd):Option GProd:=qa (f177 x.dt t s) fun v=>some { x with dt:=v.1 }
theorem zaa {l:List GProd} {i:Nat} {x y:GProd} {t s:qu} (hx:l[i]?=some x) (h:q00 t s x=some y):
  ∃ cs,qn pr (X pr) 176 [.ptr 0 (i * 4 + 1),.vptr (je t),.vptr (.fn (.func 174) [] [.vptr (je s)])] [.cells (rcl qz l)]=some (.tup [],false,[.cells cs])∧cs.map (·.1)=za qz (l.set i y):=by
 unfold q00 at h
 have ld:zh (rcl qz l) (i * 4 + 1 + 1) 1=some [sl 3 je x.dt]:=qe4 (o:=2) E_prod.len hx (by decide)
 have hb:i * 4 + 1 + 1 < (rcl qz l).length:=ql5 E_prod (o:=2) hx (by decide)
 obtain ⟨v,hv,h⟩:=qb h
 cases h
 have w:qc pr (X pr) 177 [sl 3 je x.dt,aT t,.fn (.func 174) [] [.vptr (aT s)]]=some (sl 3 je v.1,v.2):=zbl hv
 rcases v with ⟨v,o⟩
 have hy:(qz { x with dt:=v }).flat=(qz x).flat.set 2 (sl 3 je v):=rfl
 have st:jq (rcl qz l) (i * 4 + 1 + 1) [sl 3 je v]=some (rcl qz (l.set i { x with dt:=v })):=qbr (o:=2) E_prod.len hx (Nat.le_of_ble_eq_true rfl) (by simp only [List.all,go_sem,Bool.and_self]) rfl
 cases o with
 | true=>exact ⟨_,by rw [qk (show pr.fns 176=some c176 from rfl) (by simp)]; simp only [go_sem,seval,c176,je,ld,w,hb] <;> rfl,qit E_prod (o:=2) hx (by decide) hy true⟩
 | false=>exact ⟨_,by rw [qk (show pr.fns 176=some c176 from rfl) (by simp)]; simp only [go_sem,seval,c176,je,ld,w,st] <;> rfl,zy⟩
noncomputable def jgn (l:Option (List GProd)) (i:Int) (t s:qu):Option (Option (List GProd)):=chO l i (q00 t s)
theorem jf8 {l:Option (List GProd)} {i:Int} {t s:qu} {r} (h:jgn l i t s=some r):qc pr (X pr) 178 [sl 4 qz l,Iv i,.fn (.func 236) [] [.vptr (.fn (.func 176) [] [.vptr (je t),.vptr (.fn (.func 174) [] [.vptr (je s)])])]]=some (sl 4 qz r,false):=by
 refine q8p (fun n x y hx hy=>?_) h
 obtain ⟨cs,h1,h2⟩:=zaa hx hy
 simp only [q9v] at h1
 exact ⟨cs,by rw [qk (show pr.fns 236=some c236 from rfl) (by simp)]; simp only [go_sem,seval,c236,h1] <;> rfl,h2⟩
noncomputable def q7g (x:GProd):Option GProd:=qa (f181 ⟨x.dn,x.dt⟩) fun d=>qa (f180 x.docs d) fun v=>some { x with docs:=v }
theorem j7x {l:List GProd} {i:Nat} {x y:GProd} (hx:l[i]?=some x) (h:q7g x=some y):
  ∃ cs,qn pr (X pr) 179 [.ptr 0 (i * 4)] [.cells (rcl qz l)]=some (.tup [],false,[.cells cs])∧cs.map (·.1)=za qz (l.set i y):=by
 unfold q7g at h
 have ld:zh (rcl qz l) (i * 4 + 3) 1=some [sl 2 yb x.docs]:=qe4 (o:=3) E_prod.len hx (by decide)
 have ld2:zh (rcl qz l) (i * 4 + 1) 2=some [sl 2 vsi x.dn,sl 3 je x.dt]:=qe4 (o:=1) E_prod.len hx (by decide)
 have hb:i * 4 + 3 < (rcl qz l).length:=ql5 E_prod (o:=3) hx (by decide)
 obtain ⟨d,hd,h⟩:=qb h
 obtain ⟨v,hv,h⟩:=qb h
 cases h
 have w:qc pr (X pr) 181 [.agg [sl 2 vsi x.dn,sl 3 je x.dt]]=some (aD d,false):=zc7 hd
 have w2:qc pr (X pr) 180 [sl 2 yb x.docs,aD d]=some (sl 2 yb v,true):=zc2 hv
 have hy:(qz { x with docs:=v }).flat=(qz x).flat.set 3 (sl 2 yb v):=rfl
 exact ⟨_,by rw [qk (show pr.fns 179=some c179 from rfl) (by simp)]; simp only [go_sem,seval,c179,ld,ld2,w,w2,hb] <;> rfl,qit E_prod (o:=3) hx (by decide) hy true⟩
noncomputable def q6e (l:Option (List GProd)) (i:Int):Option (Option (List GProd)):=chO l i q7g
theorem jdy {l:Option (List GProd)} {i:Int} {r} (h:q6e l i=some r):qc pr (X pr) 178 [sl 4 qz l,Iv i,.fn (.func 179) [] []]=some (sl 4 qz r,false):=
 q8p (fun n x y hx hy=>j7x hx hy) h
noncomputable def q5u (e:GEv) (x:GUn):Option GUn:=qa (qw (e.names.getD []) 1) fun n=>qa (qw (e.values.getD []) 1) fun b=>qa (f194 x.results ⟨n,x.version,b⟩) fun v=>some { x with results:=v }
theorem zay {l:List GUn} {i:Nat} {x y:GUn} {e:GEv} (hx:l[i]?=some x) (h:q5u e x=some y):
  ∃ cs,qn pr (X pr) 193 [.ptr 0 (i * 8),.vptr (vev e)] [.cells (rcl vun l)]=some (.tup [],false,[.cells cs])∧cs.map (·.1)=za vun (l.set i y):=by
 unfold q5u at h
 have ld:zh (rcl vun l) (i * 8 + 4) 1=some [sl 3 je x.results]:=qe4 (o:=4) E_un.len hx (by decide)
 have ld2:zh (rcl vun l) (i * 8 + 2) 1=some [Iv x.version]:=qe4 (o:=2) E_un.len hx (by decide)
 have hb:i * 8 + 4 < (rcl vun l).length:=ql5 E_un (o:=4) hx (by decide)
 obtain ⟨n,hn,h⟩:=qb h
 obtain ⟨b,hbb,h⟩:=qb h
 obtain ⟨v,hv,h⟩:=qb h
 cases h
 have w:qc pr (X pr) 194 [sl 3 je x.results,.agg [.str n,Iv x.version,Iv b]]=some (sl 3 je v,true):=j9a hv
 have hy:(vun { x with results:=v }).flat=(vun x).flat.set 4 (sl 3 je v):=rfl
 exact ⟨_,by rw [qk (show pr.fns 193=some c193 from rfl) (by simp)]; simp only [go_sem,seval,c193,vev,zj hn,zj hbb,ld,ld2,w,hb] <;> rfl,qit E_un (o:=4) hx (by decide) hy true⟩
noncomputable def jb9 (l:Option (List GUn)) (i:Int) (e:GEv):Option (Option (List GUn)):=chO l i (q5u e)
theorem je5 {l:Option (List GUn)} {i:Int} {e:GEv} {r} (h:jb9 l i e=some r):qc pr (X pr) 189 [sl 8 vun l,Iv i,.fn (.func 193) [] [.vptr (vev e)]]=some (sl 8 vun r,false):=
 qrz (fun n x y hx hy=>zay hx hy) h
noncomputable def qxp (s:GSI) (t:qt) (x:GUn):Option GUn:=qa (f191 x.uses s t) fun v=>some { x with uses:=v.1 }
theorem jml {b0 b1 b2 b3:ABox} {l:List GUn} {i:Nat} {x y:GUn} {s:GSI} {t:qt} (hx:l[i]?=some x) (h:qxp s t x=some y):
  ∃ cs,qn pr (X pr) 190 [.ptr 5 (i * 8),.ptr 4 0,.vptr (.fn (.func 187) [] [.vptr (jg t)])] [b0,b1,b2,b3,.cells [(.str s.k,false),(Iv s.n,false)],.cells (rcl vun l)]=some (.tup [],false,[b0,b1,b2,b3,.cells [(.str s.k,false),(Iv s.n,false)],.cells cs])∧cs.map (·.1)=za vun (l.set i y):=by
 unfold qxp at h
 have ld:zh (rcl vun l) (i * 8 + 3) 1=some [sl 2 vsi x.uses]:=qe4 (o:=3) E_un.len hx (by decide)
 have hb:i * 8 + 3 < (rcl vun l).length:=ql5 E_un (o:=3) hx (by decide)
 obtain ⟨v,hv,h⟩:=qb h
 cases h
 have w:qc pr (X pr) 191 [sl 2 vsi x.uses,aN s,.fn (.func 187) [] [.vptr (aL t)]]=some (sl 2 vsi v.1,v.2):=zd5 hv
 rcases v with ⟨v,o⟩
 have hy:(vun { x with uses:=v }).flat=(vun x).flat.set 3 (sl 2 vsi v):=rfl
 have st:jq (rcl vun l) (i * 8 + 3) [sl 2 vsi v]=some (rcl vun (l.set i { x with uses:=v })):=qbr (o:=3) E_un.len hx (Nat.le_of_ble_eq_true rfl) (by simp only [List.all,go_sem,Bool.and_self]) rfl
 cases o with
 | true=>exact ⟨_,by rw [qk (show pr.fns 190=some c190 from rfl) (by simp)]; simp only [go_sem,seval,c190,jg,ld,w,hb] <;> rfl,qit E_un (o:=3) hx (by decide) hy true⟩
 | false=>exact ⟨_,by rw [qk (show pr.fns 190=some c190 from rfl) (by simp)]; simp only [go_sem,seval,c190,jg,ld,w,st] <;> rfl,zy⟩
end Go.Z
namespace Go.Z
open Go Go.Abs Go.W
def stO {α:Type} (l:Option (List α)) (i:Int) (x:α):Option (Option (List α)):=
 if (l.getD []).length≤1073741824∧0≤i∧i < (l.getD []).length then some (some ((l.getD []).set i.toNat x)) else none
theorem qsw {α:Type} {l:Option (List α)} {i:Int} {x:α} {r} (h:stO l i x=some r):∃ (n:Nat),i=(n:Int)∧(l.getD []).length≤1073741824∧n < (l.getD []).length∧r=some ((l.getD []).set n x):=by
 unfold stO at h
 split at h
 ·rename_i hc
  cases h
  exact ⟨i.toNat,(Int.toNat_of_nonneg hc.2.1).symm,hc.1,by omega,rfl⟩
 ·cases h
section
variable {α:Type} {f:α→AVal} {sz:Nat} {h:qf}
theorem q7e {l:List α}:cellsOf ((l.map f).flatMap AVal.flat)=rcl f l:=rfl
theorem qs2 (E:Enc f sz) {n0 r b t:Nat} {l:Option (List α)} (hl:(l.getD []).length≤1073741824) (hb:b≤4096) {h':qf} (hh:newBox n0 h r (.cells (rcl f (l.getD [])))=some h'):qnk n0 r sz b h (some t) (some (.list false sz [])) (some (sl sz f l))=some ⟨.ms (n0 + r) 0 (l.getD []).length,false,some t,h'⟩:=by
 have hs:zp sz (sl sz f l)=some ((l.getD []).map f):=q16
 have h1:0 < sz:=by have:=E.big; omega
 simp only [qnk]
 rw [hs]
 simp only [Option.isSome_some,Nat.beq_refl,Bool.and_self,cond_true,List.length_map,Nat.ble_eq_true_of_le hl,Nat.ble_eq_true_of_le hb,Nat.blt_eq.mpr h1,q7e,hh]
theorem q2l (E:Enc f sz) {l:List α} {i:Nat} {y:α} (hi:i < l.length):jq (rcl f l) (i * sz) (f y).flat=some (rcl f (l.set i y)):=by
 have hx:l[i]?=some l[i]:=List.getElem?_eq_getElem hi
 have hl:=E.len l[i]
 have hly:=E.len y
 have:=qbr (o:=0) (us:=(f y).flat) (y:=y) E.len hx (by omega) (E.sc y) (by rw [List.take_zero,List.nil_append,List.drop_eq_nil_of_le (by omega),List.append_nil])
 rw [Nat.add_zero] at this
 exact this
end
def f206 (a0:GReg) (a1:Int) (x:qt):Option GReg:=qa (stO a0.lots a1 x) fun v=>some { a0 with lots:=v }
theorem jry {a0:GReg} {a1:Int} {x:qt} {r} (h:f206 a0 a1 x=some r):qc pr (X pr) 206 [aR a0,Iv a1,aL x]=some (aR r,false):=by
 obtain ⟨v,hv,h⟩:=qb h
 cases h
 obtain ⟨n,rfl,hl,hi,rfl⟩:=qsw hv
 have ap:qnk 2 0 5 56 [kR a0.day a0.lots a0.products a0.units,kZ,.hole] (some 7) (some (.list false 5 [])) (some (sl 5 jg a0.lots))=some ⟨.ms 2 0 (a0.lots.getD []).length,false,some 7,[kR a0.day a0.lots a0.products a0.units,kZ,.cells (rcl jg (a0.lots.getD []))]⟩:=by jh qs2 E_lot <;> first | exact hl | rfl | decide
 have st:jq (rcl jg (a0.lots.getD [])) (n * 5) [.str x.name,.str x.kind,Iv x.count,Iv x.left,.bool x.held]=some (rcl jg ((a0.lots.getD []).set n x)):=q2l (y:=x) E_lot hi
 have this:qn pr (X pr) 206 [aR a0,Iv (n:Int),aL x] []=some (.agg [Iv a0.day,.ms 2 0 (a0.lots.getD []).length,sl 4 qz a0.products,sl 8 vun a0.units],false,[.cells [(Iv a0.day,false),(.ms 2 0 (a0.lots.getD []).length,false),(sl 4 qz a0.products,false),(sl 8 vun a0.units,false)],.cells [(Iv a0.day,false),(.ms 2 0 (a0.lots.getD []).length,false),(sl 4 qz a0.products,false),(sl 8 vun a0.units,false)],.cells (rcl jg ((a0.lots.getD []).set n x))]):=by
  rw [qk (show pr.fns 206=some c206 from rfl) (by simp)]
  simp only [go_sem,seval,c206,ap,qcu hi,st] <;> rfl
 have fz:kf [.cells [(Iv a0.day,false),(.ms 2 0 (a0.lots.getD []).length,false),(sl 4 qz a0.products,false),(sl 8 vun a0.units,false)],.cells [(Iv a0.day,false),(.ms 2 0 (a0.lots.getD []).length,false),(sl 4 qz a0.products,false),(sl 8 vun a0.units,false)],.cells (rcl jg ((a0.lots.getD []).set n x))] (.ms 2 0 (a0.lots.getD []).length)=some (sl 5 jg (some ((a0.lots.getD []).set n x))):=by
  have:=qcv E_lot (l:=(a0.lots.getD []).set n x) (by rw [List.length_set]; omega) (cs:=rcl jg ((a0.lots.getD []).set n x)) zy
  rw [List.length_set] at this
  exact this
 refine zu rfl this (v':=.agg [Iv a0.day,sl 5 jg (some ((a0.lots.getD []).set n x)),sl 4 qz a0.products,sl 8 vun a0.units]) ?_ (by first | rfl | simp only [go_sem,seval])
 rw [qts]
 simp only [go_sem,seval,fz] <;> rfl
def f205 (a0:GReg) (a1:Int) (x:GProd):Option GReg:=qa (stO a0.products a1 x) fun v=>some { a0 with products:=v }
theorem zfh {a0:GReg} {a1:Int} {x:GProd} {r} (h:f205 a0 a1 x=some r):qc pr (X pr) 205 [aR a0,Iv a1,aP x]=some (aR r,false):=by
 obtain ⟨v,hv,h⟩:=qb h
 cases h
 obtain ⟨n,rfl,hl,hi,rfl⟩:=qsw hv
 have ap:qnk 2 0 4 88 [kR a0.day a0.lots a0.products a0.units,kZ,.hole] (some 7) (some (.list false 4 [])) (some (sl 4 qz a0.products))=some ⟨.ms 2 0 (a0.products.getD []).length,false,some 7,[kR a0.day a0.lots a0.products a0.units,kZ,.cells (rcl qz (a0.products.getD []))]⟩:=by jh qs2 E_prod <;> first | exact hl | rfl | decide
 have st:jq (rcl qz (a0.products.getD [])) (n * 4) [.str x.name,sl 2 vsi x.dn,sl 3 je x.dt,sl 2 yb x.docs]=some (rcl qz ((a0.products.getD []).set n x)):=q2l (y:=x) E_prod hi
 have this:qn pr (X pr) 205 [aR a0,Iv (n:Int),aP x] []=some (.agg [Iv a0.day,sl 5 jg a0.lots,.ms 2 0 (a0.products.getD []).length,sl 8 vun a0.units],false,[.cells [(Iv a0.day,false),(sl 5 jg a0.lots,false),(.ms 2 0 (a0.products.getD []).length,false),(sl 8 vun a0.units,false)],.cells [(Iv a0.day,false),(sl 5 jg a0.lots,false),(.ms 2 0 (a0.products.getD []).length,false),(sl 8 vun a0.units,false)],.cells (rcl qz ((a0.products.getD []).set n x))]):=by
  rw [qk (show pr.fns 205=some c205 from rfl) (by simp)]
  simp only [go_sem,seval,c205,ap,qcu hi,st] <;> rfl
 have fz:kf [.cells [(Iv a0.day,false),(sl 5 jg a0.lots,false),(.ms 2 0 (a0.products.getD []).length,false),(sl 8 vun a0.units,false)],.cells [(Iv a0.day,false),(sl 5 jg a0.lots,false),(.ms 2 0 (a0.products.getD []).length,false),(sl 8 vun a0.units,false)],.cells (rcl qz ((a0.products.getD []).set n x))] (.ms 2 0 (a0.products.getD []).length)=some (sl 4 qz (some ((a0.products.getD []).set n x))):=by
  have:=qcv E_prod (l:=(a0.products.getD []).set n x) (by rw [List.length_set]; omega) (cs:=rcl qz ((a0.products.getD []).set n x)) zy
  rw [List.length_set] at this
  exact this
 refine zu rfl this (v':=.agg [Iv a0.day,sl 5 jg a0.lots,sl 4 qz (some ((a0.products.getD []).set n x)),sl 8 vun a0.units]) ?_ (by first | rfl | simp only [go_sem,seval])
 rw [qts]
 simp only [go_sem,seval,fz] <;> rfl
def f209 (a0:GReg) (a1:Int) (x:GUn):Option GReg:=qa (stO a0.units a1 x) fun v=>some { a0 with units:=v }
theorem je8 {a0:GReg} {a1:Int} {x:GUn} {r} (h:f209 a0 a1 x=some r):qc pr (X pr) 209 [aR a0,Iv a1,aU x]=some (aR r,false):=by
 obtain ⟨v,hv,h⟩:=qb h
 cases h
 obtain ⟨n,rfl,hl,hi,rfl⟩:=qsw hv
 have ap:qnk 2 0 8 120 [kR a0.day a0.lots a0.products a0.units,kZ,.hole] (some 7) (some (.list false 8 [])) (some (sl 8 vun a0.units))=some ⟨.ms 2 0 (a0.units.getD []).length,false,some 7,[kR a0.day a0.lots a0.products a0.units,kZ,.cells (rcl vun (a0.units.getD []))]⟩:=by jh qs2 E_un <;> first | exact hl | rfl | decide
 have st:jq (rcl vun (a0.units.getD [])) (n * 8) [.str x.name,.str x.product,Iv x.version,sl 2 vsi x.uses,sl 3 je x.results,.str x.partner,.bool x.shipped,Iv x.complaints]=some (rcl vun ((a0.units.getD []).set n x)):=q2l (y:=x) E_un hi
 have this:qn pr (X pr) 209 [aR a0,Iv (n:Int),aU x] []=some (.agg [Iv a0.day,sl 5 jg a0.lots,sl 4 qz a0.products,.ms 2 0 (a0.units.getD []).length],false,[.cells [(Iv a0.day,false),(sl 5 jg a0.lots,false),(sl 4 qz a0.products,false),(.ms 2 0 (a0.units.getD []).length,false)],.cells [(Iv a0.day,false),(sl 5 jg a0.lots,false),(sl 4 qz a0.products,false),(.ms 2 0 (a0.units.getD []).length,false)],.cells (rcl vun ((a0.units.getD []).set n x))]):=by
  rw [qk (show pr.fns 209=some c209 from rfl) (by simp)]
  simp only [go_sem,seval,c209,ap,qcu hi,st] <;> rfl
 have fz:kf [.cells [(Iv a0.day,false),(sl 5 jg a0.lots,false),(sl 4 qz a0.products,false),(.ms 2 0 (a0.units.getD []).length,false)],.cells [(Iv a0.day,false),(sl 5 jg a0.lots,false),(sl 4 qz a0.products,false),(.ms 2 0 (a0.units.getD []).length,false)],.cells (rcl vun ((a0.units.getD []).set n x))] (.ms 2 0 (a0.units.getD []).length)=some (sl 8 vun (some ((a0.units.getD []).set n x))):=by
  have:=qcv E_un (l:=(a0.units.getD []).set n x) (by rw [List.length_set]; omega) (cs:=rcl vun ((a0.units.getD []).set n x)) zy
  rw [List.length_set] at this
  exact this
 refine zu rfl this (v':=.agg [Iv a0.day,sl 5 jg a0.lots,sl 4 qz a0.products,sl 8 vun (some ((a0.units.getD []).set n x))]) ?_ (by first | rfl | simp only [go_sem,seval])
 rw [qts]
 simp only [go_sem,seval,fz] <;> rfl
end Go.Z
namespace Go.Z
open Go Go.Abs Go.W
noncomputable def qi0 (a0:Option (List GSI)) (a1:GSI) (s0:(Option (List GSI)) × Bool × Int × Bool):Option (((Option (List GSI)) × Bool × Int × Bool) ⊕ (((Option (List GSI)) × Bool × Bool × Int))):=
 cond (decide (s0.2.2.1 < ((a0.getD []).length:Int)))
  (qa (qw (a0.getD []) s0.2.2.1) fun v24=>
  cond (decide (v24.k=a1.k))
   (cond (decide (0 < a1.n))
    (cond s0.2.2.2
     (qa (apO s0.1 [a1]) fun v29=>
     some (.inl (v29,true,qe .i64 (s0.2.2.1 + 1),true)))
     (cond s0.1.isNone
      (qa (apO s0.1 [a1]) fun v32=>
      some (.inl (v32,true,qe .i64 (s0.2.2.1 + 1),true)))
      (none)))
    (some (.inl (s0.1,true,qe .i64 (s0.2.2.1 + 1),s0.2.2.2))))
   (cond s0.2.2.2
    (qa (apO s0.1 [v24]) fun v35=>
    some (.inl (v35,s0.2.1,qe .i64 (s0.2.2.1 + 1),true)))
    (cond s0.1.isNone
     (qa (apO s0.1 [v24]) fun v38=>
     some (.inl (v38,s0.2.1,qe .i64 (s0.2.2.1 + 1),true)))
     (none))))
  (some (.inr (s0.1,s0.2.2.2,s0.2.1,s0.2.2.1)))
def qmf (a0:Option (List GSI)) (a1:GSI) (s0:(Option (List GSI)) × Bool × Int × Bool):ASt:=⟨[(0,sl 2 vsi a0,false),(3,.vptr (aN a1),false),(5,sl 2 vsi s0.1,s0.2.2.2),(6,.bool s0.2.1,false),(7,Iv s0.2.2.1,false)],[]⟩
def qml (a0:Option (List GSI)) (a1:GSI) (d:((Option (List GSI)) × Bool × Bool × Int)):jd × ASt:=(.exit 0,⟨[(0,sl 2 vsi a0,false),(3,.vptr (aN a1),false),(5,sl 2 vsi d.1,d.2.1),(6,.bool d.2.2.1,false),(7,Iv d.2.2.2,false),(11,.bool false,false)],[]⟩)
theorem jm7 (a0:Option (List GSI)) (a1:GSI) (s0:(Option (List GSI)) × Bool × Int × Bool) (r) (h:qi0 a0 a1 s0=some r):jy pr qo4 (qmf a0 a1) (qml a0 a1) s0 r:=by
 unfold qi0 at h
 repeat' first | (replace h:=qb h; obtain ⟨d,g,h⟩:=h; with_reducible first | replace g:=qgl g | skip) | (replace h:=qd h; rcases h with ⟨g,h⟩ | ⟨g,h⟩) | fail
 all_goals (cases h <;> (first | (refine jb ?_; simp only [go_sem,seval,qo4,qmf,qv,qml,*] <;> rfl) | (refine js ?_; simp only [go_sem,seval,qo4,qmf,qv,qml,*] <;> rfl)))
theorem jnf (a0:Option (List GSI)) (a1:GSI) {s0:(Option (List GSI)) × Bool × Int × Bool} {d} (h:itO (qi0 a0 a1) s0=some d):X pr (.loop qo4) (qmf a0 a1 s0)=some (qml a0 a1 d):=zf (jm7 a0 a1) (fun d hh=>by cases hh) h
noncomputable def f203 (a0:Option (List GSI)) (a1:GSI):Option ((Option (List GSI)) × Bool):=
 qa (itO (qi0 a0 a1) (none,false,0,false)) fun d40=>
 cond d40.2.2.1
  (some (d40.1,d40.2.1))
  (cond (decide (0 < a1.n))
   (cond d40.2.1
    (qa (apO d40.1 [a1]) fun v45=>
    some (v45,true))
    (cond d40.1.isNone
     (qa (apO d40.1 [a1]) fun v48=>
     some (v48,true))
     (none)))
   (some (d40.1,d40.2.1)))
theorem zb5 {a0:Option (List GSI)} {a1:GSI} {r} (h:f203 a0 a1=some r):qc pr (X pr) 203 [sl 2 vsi a0,aN a1]=some (sl 2 vsi r.1,r.2):=by
 unfold f203 at h
 refine kg c203 ?_
 repeat' first | (replace h:=qb h; obtain ⟨d,g,h⟩:=h; with_reducible first | replace g:=qgl g | (replace g:=jnf a0 a1 g; dsimp only [qmf,qml,zi] at g h) | skip) | (replace h:=qd h; rcases h with ⟨g,h⟩ | ⟨g,h⟩) | fail
 all_goals (cases h <;> (simp only [go_sem,seval,c203,*]; exact ⟨_,rfl⟩))
noncomputable def qj5 (a0:Option (List qu)) (a1:qu) (s0:(Option (List qu)) × Bool × Int × Bool):Option (((Option (List qu)) × Bool × Int × Bool) ⊕ (((Option (List qu)) × Bool × Bool × Int))):=
 cond (decide (s0.2.2.1 < ((a0.getD []).length:Int)))
  (qa (qw (a0.getD []) s0.2.2.1) fun v22=>
  cond (decide (v22.k=a1.k))
   (cond s0.2.2.2
    (qa (apO s0.1 [a1]) fun v26=>
    some (.inl (v26,true,qe .i64 (s0.2.2.1 + 1),true)))
    (cond s0.1.isNone
     (qa (apO s0.1 [a1]) fun v29=>
     some (.inl (v29,true,qe .i64 (s0.2.2.1 + 1),true)))
     (none)))
   (cond s0.2.2.2
    (qa (apO s0.1 [v22]) fun v32=>
    some (.inl (v32,s0.2.1,qe .i64 (s0.2.2.1 + 1),true)))
    (cond s0.1.isNone
     (qa (apO s0.1 [v22]) fun v35=>
     some (.inl (v35,s0.2.1,qe .i64 (s0.2.2.1 + 1),true)))
     (none))))
  (some (.inr (s0.1,s0.2.2.2,s0.2.1,s0.2.2.1)))
def qmj (a0:Option (List qu)) (a1:qu) (s0:(Option (List qu)) × Bool × Int × Bool):ASt:=⟨[(0,sl 3 je a0,false),(3,.vptr (aT a1),false),(5,sl 3 je s0.1,s0.2.2.2),(6,.bool s0.2.1,false),(7,Iv s0.2.2.1,false)],[]⟩
def qmt (a0:Option (List qu)) (a1:qu) (d:((Option (List qu)) × Bool × Bool × Int)):jd × ASt:=(.exit 0,⟨[(0,sl 3 je a0,false),(3,.vptr (aT a1),false),(5,sl 3 je d.1,d.2.1),(6,.bool d.2.2.1,false),(7,Iv d.2.2.2,false),(11,.bool false,false)],[]⟩)
theorem jn5 (a0:Option (List qu)) (a1:qu) (s0:(Option (List qu)) × Bool × Int × Bool) (r) (h:qj5 a0 a1 s0=some r):jy pr qpy (qmj a0 a1) (qmt a0 a1) s0 r:=by
 unfold qj5 at h
 repeat' first | (replace h:=qb h; obtain ⟨d,g,h⟩:=h; with_reducible first | replace g:=qfq g | skip) | (replace h:=qd h; rcases h with ⟨g,h⟩ | ⟨g,h⟩) | fail
 all_goals (cases h <;> (first | (refine jb ?_; simp only [go_sem,seval,qpy,qmj,qv,qmt,*] <;> rfl) | (refine js ?_; simp only [go_sem,seval,qpy,qmj,qv,qmt,*] <;> rfl)))
theorem jr8 (a0:Option (List qu)) (a1:qu) {s0:(Option (List qu)) × Bool × Int × Bool} {d} (h:itO (qj5 a0 a1) s0=some d):X pr (.loop qpy) (qmj a0 a1 s0)=some (qmt a0 a1 d):=zf (jn5 a0 a1) (fun d hh=>by cases hh) h
noncomputable def f204 (a0:Option (List qu)) (a1:qu):Option ((Option (List qu)) × Bool):=
 qa (itO (qj5 a0 a1) (none,false,0,false)) fun d37=>
 cond d37.2.2.1
  (some (d37.1,d37.2.1))
  (cond d37.2.1
   (qa (apO d37.1 [a1]) fun v41=>
   some (v41,true))
   (cond d37.1.isNone
    (qa (apO d37.1 [a1]) fun v44=>
    some (v44,true))
    (none)))
theorem j8z {a0:Option (List qu)} {a1:qu} {r} (h:f204 a0 a1=some r):qc pr (X pr) 204 [sl 3 je a0,aT a1]=some (sl 3 je r.1,r.2):=by
 unfold f204 at h
 refine kg c204 ?_
 repeat' first | (replace h:=qb h; obtain ⟨d,g,h⟩:=h; with_reducible first | replace g:=qfq g | (replace g:=jr8 a0 a1 g; dsimp only [qmj,qmt,zi] at g h) | skip) | (replace h:=qd h; rcases h with ⟨g,h⟩ | ⟨g,h⟩) | fail
 all_goals (cases h <;> (simp only [go_sem,seval,c204,*]; exact ⟨_,rfl⟩))
noncomputable def qjs (a0:Option (List GSI)) (a1:List UInt8) (a2:Int) (s0:(Option (List GSI)) × Bool × Int × Bool):Option (((Option (List GSI)) × Bool × Int × Bool) ⊕ (((Option (List GSI)) × Bool × Bool × Int))):=
 cond (decide (s0.2.2.1 < ((a0.getD []).length:Int)))
  (qa (qw (a0.getD []) s0.2.2.1) fun v22=>
  cond (decide (v22.k=a1))
   (cond s0.2.2.2
    (qa (apO s0.1 [⟨v22.k,qe .i64 (v22.n + a2)⟩]) fun v26=>
    some (.inl (v26,true,qe .i64 (s0.2.2.1 + 1),true)))
    (cond s0.1.isNone
     (qa (apO s0.1 [⟨v22.k,qe .i64 (v22.n + a2)⟩]) fun v29=>
     some (.inl (v29,true,qe .i64 (s0.2.2.1 + 1),true)))
     (none)))
   (cond s0.2.2.2
    (qa (apO s0.1 [v22]) fun v32=>
    some (.inl (v32,s0.2.1,qe .i64 (s0.2.2.1 + 1),true)))
    (cond s0.1.isNone
     (qa (apO s0.1 [v22]) fun v35=>
     some (.inl (v35,s0.2.1,qe .i64 (s0.2.2.1 + 1),true)))
     (none))))
  (some (.inr (s0.1,s0.2.2.2,s0.2.1,s0.2.2.1)))
def qgp (a0:Option (List GSI)) (a1:List UInt8) (a2:Int) (s0:(Option (List GSI)) × Bool × Int × Bool):ASt:=⟨[(0,sl 2 vsi a0,false),(1,.str a1,false),(2,Iv a2,false),(7,sl 2 vsi s0.1,s0.2.2.2),(8,.bool s0.2.1,false),(9,Iv s0.2.2.1,false)],[]⟩
def qld (a0:Option (List GSI)) (a1:List UInt8) (a2:Int) (d:((Option (List GSI)) × Bool × Bool × Int)):jd × ASt:=(.exit 0,⟨[(0,sl 2 vsi a0,false),(1,.str a1,false),(2,Iv a2,false),(7,sl 2 vsi d.1,d.2.1),(8,.bool d.2.2.1,false),(9,Iv d.2.2.2,false),(14,.bool false,false)],[]⟩)
theorem jpz (a0:Option (List GSI)) (a1:List UInt8) (a2:Int) (s0:(Option (List GSI)) × Bool × Int × Bool) (r) (h:qjs a0 a1 a2 s0=some r):jy pr qqv (qgp a0 a1 a2) (qld a0 a1 a2) s0 r:=by
 unfold qjs at h
 repeat' first | (replace h:=qb h; obtain ⟨d,g,h⟩:=h; with_reducible first | replace g:=qgl g | skip) | (replace h:=qd h; rcases h with ⟨g,h⟩ | ⟨g,h⟩) | fail
 all_goals (cases h <;> (first | (refine jb ?_; simp only [go_sem,seval,qqv,qgp,qv,qld,*] <;> rfl) | (refine q5c ?_ rfl (by first | simp only [go_sem,seval,qgp] | rfl) (by first | simp only [go_sem,seval,qgp] | rfl); simp only [go_sem,seval,qqv,qgp,qv,qld,*]; exact ⟨_,rfl⟩)))
theorem jnn (a0:Option (List GSI)) (a1:List UInt8) (a2:Int) {s0:(Option (List GSI)) × Bool × Int × Bool} {d} (h:itO (qjs a0 a1 a2) s0=some d):X pr (.loop qqv) (qgp a0 a1 a2 s0)=some (qld a0 a1 a2 d):=zf (jpz a0 a1 a2) (fun d hh=>by cases hh) h
noncomputable def f252 (a0:Option (List GSI)) (a1:List UInt8) (a2:Int):Option ((Option (List GSI)) × Bool):=
 qa (itO (qjs a0 a1 a2) (none,false,0,false)) fun d37=>
 cond d37.2.2.1
  (some (d37.1,d37.2.1))
  (cond d37.2.1
   (qa (apO d37.1 [⟨a1,a2⟩]) fun v41=>
   some (v41,true))
   (cond d37.1.isNone
    (qa (apO d37.1 [⟨a1,a2⟩]) fun v44=>
    some (v44,true))
    (none)))
theorem zdm {a0:Option (List GSI)} {a1:List UInt8} {a2:Int} {r} (h:f252 a0 a1 a2=some r):qc pr (X pr) 252 [sl 2 vsi a0,.str a1,Iv a2]=some (sl 2 vsi r.1,r.2):=by
 unfold f252 at h
 refine kg c252 ?_
 repeat' first | (replace h:=qb h; obtain ⟨d,g,h⟩:=h; with_reducible first | replace g:=qgl g | (replace g:=jnn a0 a1 a2 g; dsimp only [qgp,qld,zi] at g h) | skip) | (replace h:=qd h; rcases h with ⟨g,h⟩ | ⟨g,h⟩) | fail
 all_goals (cases h <;> (simp only [go_sem,seval,c252,*]; exact ⟨_,rfl⟩))
noncomputable def f124 (a0:GReg) (a1:GEv):Option (GReg × Int):=
 qa (qw (a1.names.getD []) 0) fun v1=>
 cond (decide (a1.kind=([108,111,116]:List UInt8)))
  (qa (f28 a0 v1) fun v4=>
  cond (decide (0≤v4))
   (some (a0,9))
   (qa (qw (a1.values.getD []) 1) fun v7=>
   qa (f59 v7 1 10000) fun v9=>
   cond v9
    (some (a0,3))
    (cond (decide (64≤((a0.lots.getD []).length:Int)))
     (some (a0,5))
     (qa (apO (some []) (a0.lots.getD [])) fun v13=>
     qa (qw (a1.names.getD []) 1) fun v15=>
     qa (apO v13 [⟨v1,v15,v7,v7,false⟩]) fun v17=>
     some (⟨a0.day,v17,a0.products,a0.units⟩,0)))))
  (cond (decide (a1.kind=([112,114,111,100,117,99,116]:List UInt8)))
   (qa (f144 a0 v1) fun v20=>
   cond (decide (0≤v20))
    (some (a0,9))
    (cond (decide (16≤((a0.products.getD []).length:Int)))
     (some (a0,5))
     (qa (apO (some []) (a0.products.getD [])) fun v24=>
     qa (apO v24 [⟨v1,none,none,none⟩]) fun v26=>
     some (⟨a0.day,a0.lots,v26,a0.units⟩,0))))
   (qa (qw (a1.names.getD []) 1) fun v28=>
   qa (f144 a0 v28) fun v30=>
   cond (decide (v30 < 0))
    (some (a0,10))
    (qa (f27 a0 v1) fun v33=>
    cond (decide (0≤v33))
     (some (a0,9))
     (qa (qw (a0.products.getD []) v30) fun v36=>
     cond (decide (((v36.docs.getD []).length:Int)=0))
      (some (a0,32))
      (cond (decide (256≤((a0.units.getD []).length:Int)))
       (some (a0,5))
       (qa (apO (some []) (a0.units.getD [])) fun v40=>
       qa (apO v40 [⟨v1,v28,((v36.docs.getD []).length:Int),none,none,[],false,0⟩]) fun v42=>
       some (⟨a0.day,a0.lots,a0.products,v42⟩,0)))))))
theorem zdh {a0:GReg} {a1:GEv} {r} (h:f124 a0 a1=some r):qc pr (X pr) 124 [aR a0,aE a1]=some (.tup [aR r.1,Iv r.2],false):=by
 unfold f124 at h
 refine zg c124 ?_
 repeat' first | (replace h:=qb h; obtain ⟨d,g,h⟩:=h; (with_reducible first | replace g:=W28 g | replace g:=W59 g | replace g:=q8w g | replace g:=W27 g | replace g:=qse g | replace g:=qtt g | replace g:=q1f g | skip); try dsimp only [zi,qem,List.map,zw,ye,jg,qz,vun,jj,vev,vsi,je,yb,aE,aR,aU,aL,aP,aD] at g) | (replace h:=qd h; rcases h with ⟨g,h⟩ | ⟨g,h⟩) | fail
 all_goals (cases h <;> (simp only [go_sem,seval,c124,qv,ke,*]; exact ⟨_,rfl⟩))
end Go.Z
