/- Chapter 10. -/
import Derived.Test.YtfopaakmgogpiaaGreatDoorV0
import Derived.Test.YtfopaakmgogpiaaGreatDoorW8
import Derived.Test.YtfopaakmgogpiaaGreatDoorW3
import Derived.Test.YtfopaakmgogpiaaGreatDoorAbsL
import Derived.Test.YtfopaakmgogpiaaGreatDoorCA
set_option linter.unusedVariables false
set_option linter.unusedSimpArgs false
set_option maxRecDepth 100000
set_option maxHeartbeats 4000000
noncomputable section
namespace Go.Z
open Go Go.Abs Go.W
theorem qj6 {α:Type}{f:α→qa}{sz:Nat}(E:Enc f sz){l:List α}{i o:Nat}{x y:α}{u:qa}(hx:l[i]?=some x)(ho:o<sz)(hy:(f y).flat=(f x).flat.set o u)(w:Bool):((rcl f l).set (i*sz+o) (u,w)).map (·.1)=yw f (l.set i y):=by
 have h:=congrArg (List.map (·.1)) (q5p E.len hx ho hy)
 rw[List.map_set]at h ⊢
 rw[show(rcl f (l.set i y)).map (·.1)=yw f (l.set i y)from kw]at h
 exact h
theorem qn3 {α:Type}{f:α→qa}{sz:Nat}(E:Enc f sz){l:List α}{i o:Nat}{x:α}(hx:l[i]?=some x)(ho:o<sz):i*sz+o<(rcl f l).length:=by
 have h:=(qf4 (n:=1) (o:=o) E.len hx (by omega)).2
 simp only[rcl,cellsOf,List.length_map]
 omega
def q1t (c:Int)(nm k:List UInt8)(x:qi):Option qi:=cond (decide (c=0))
 (jw (f171 x.dn nm) fun v=>some { x with dn:=v.1 })
 (jw (f173 x.dn ⟨k,c⟩ nm) fun v=>some { x with dn:=v.1 })
theorem zhl {l:List qi}{i:Nat}{x y:qi}{c:Int}{nm k:List UInt8}(hx:l[i]?=some x)(h:q1t c nm k x=some y):
  ∃cs,zf pr (X pr) 170 [.ptr 0 (i*4+1),.vptr (Iv c),.vptr (.fn (.func 167) [] [.vptr (.str nm)]),.vptr (.str k)] [.cells (rcl zr l)]=some (.tup [],false,[.cells cs])∧cs.map (·.1)=yw zr (l.set i y):=by
 unfold q1t at h
 have ld:y9 (rcl zr l) (i*4+1) 1=some [sl 2 vsi x.dn]:=qgh (o:=1) E_prod.len hx (by decide)
 have hb:=qn3 E_prod (o:=1) hx (by decide)
 rcases jz h with⟨h1,h⟩|⟨h1,h⟩
 ·obtain⟨v,hv,h⟩:=jx h
  cases h
  have w:=zdw [.cells (rcl zr l)] hv
  rcases v with⟨v,o⟩
  have hy:(zr { x with dn:=v }).flat=(zr x).flat.set 1 (sl 2 vsi v):=rfl
  have st:yj (rcl zr l) (i*4+1) [sl 2 vsi v]=some (rcl zr (l.set i { x with dn:=v })):=qc1 (o:=1) E_prod.len hx (Nat.le_of_ble_eq_true rfl) (by simp only[List.all,go_sem,Bool.and_self]) rfl
  cases o with
  |true=>exact⟨_,by rw[zd (show pr.fns 170=some c170 from rfl) (by simp)];simp only[go_sem,seval,c170,h1,ld,w,hb]<;>rfl,qj6 E_prod hx (by decide) hy true⟩
  |false=>exact⟨_,by rw[zd (show pr.fns 170=some c170 from rfl) (by simp)];simp only[go_sem,seval,c170,h1,ld,w,st]<;>rfl,kw⟩
 ·obtain⟨v,hv,h⟩:=jx h
  cases h
  have w:jy pr (X pr) 173 [sl 2 vsi x.dn,.agg [.str k,Iv c],.fn (.func 167) [] [.vptr (.str nm)]]=some (sl 2 vsi v.1,v.2):=zfl hv
  rcases v with⟨v,o⟩
  have hy:(zr { x with dn:=v }).flat=(zr x).flat.set 1 (sl 2 vsi v):=rfl
  have st:yj (rcl zr l) (i*4+1) [sl 2 vsi v]=some (rcl zr (l.set i { x with dn:=v })):=qc1 (o:=1) E_prod.len hx (Nat.le_of_ble_eq_true rfl) (by simp only[List.all,go_sem,Bool.and_self]) rfl
  cases o with
  |true=>exact⟨_,by rw[zd (show pr.fns 170=some c170 from rfl) (by simp)];simp only[go_sem,seval,c170,h1,ld,w,hb]<;>rfl,qj6 E_prod hx (by decide) hy true⟩
  |false=>exact⟨_,by rw[zd (show pr.fns 170=some c170 from rfl) (by simp)];simp only[go_sem,seval,c170,h1,ld,w,st]<;>rfl,kw⟩
def jh8 (l:Option (List qi))(i:Int)(c:Int)(nm k:List UInt8):Option (Option (List qi)):=chO l i (q1t c nm k)
theorem jeg {l:Option (List qi)}{i:Int}{c:Int}{nm k:List UInt8}{r}(h:jh8 l i c nm k=some r):jy pr (X pr) 178 [sl 4 zr l,Iv i,.fn (.func 236) [] [.vptr (.fn (.func 170) [] [.vptr (Iv c),.vptr (.fn (.func 167) [] [.vptr (.str nm)]),.vptr (.str k)])]]=some (sl 4 zr r,false):=by
 refine q8y (fun n x y hx hy=>?_) h
 obtain⟨cs,h1,h2⟩:=zhl hx hy
 exact⟨cs,by rw[zd (show pr.fns 236=some c236 from rfl) (by simp)];simp only[go_sem,seval,c236,h1]<;>rfl,h2⟩
def q4m (t s:qk)(x:qi):Option qi:=jw (f177 x.dt t s) fun v=>some { x with dt:=v.1 }
theorem zdv {l:List qi}{i:Nat}{x y:qi}{t s:qk}(hx:l[i]?=some x)(h:q4m t s x=some y):
  ∃cs,zf pr (X pr) 176 [.ptr 0 (i*4+1),.vptr (zz t),.vptr (.fn (.func 174) [] [.vptr (zz s)])] [.cells (rcl zr l)]=some (.tup [],false,[.cells cs])∧cs.map (·.1)=yw zr (l.set i y):=by
 unfold q4m at h
 have ld:y9 (rcl zr l) (i*4+1+1) 1=some [sl 3 zz x.dt]:=qgh (o:=2) E_prod.len hx (by decide)
 have hb:i*4+1+1<(rcl zr l).length:=qn3 E_prod (o:=2) hx (by decide)
 obtain⟨v,hv,h⟩:=jx h
 cases h
 have w:jy pr (X pr) 177 [sl 3 zz x.dt,aT t,.fn (.func 174) [] [.vptr (aT s)]]=some (sl 3 zz v.1,v.2):=zcd hv
 rcases v with⟨v,o⟩
 have hy:(zr { x with dt:=v }).flat=(zr x).flat.set 2 (sl 3 zz v):=rfl
 have st:yj (rcl zr l) (i*4+1+1) [sl 3 zz v]=some (rcl zr (l.set i { x with dt:=v })):=qc1 (o:=2) E_prod.len hx (Nat.le_of_ble_eq_true rfl) (by simp only[List.all,go_sem,Bool.and_self]) rfl
 cases o with
 |true=>exact⟨_,by rw[zd (show pr.fns 176=some c176 from rfl) (by simp)];simp only[go_sem,seval,c176,zz,ld,w,hb]<;>rfl,qj6 E_prod (o:=2) hx (by decide) hy true⟩
 |false=>exact⟨_,by rw[zd (show pr.fns 176=some c176 from rfl) (by simp)];simp only[go_sem,seval,c176,zz,ld,w,st]<;>rfl,kw⟩
def jh1 (l:Option (List qi))(i:Int)(t s:qk):Option (Option (List qi)):=chO l i (q4m t s)
theorem jfu {l:Option (List qi)}{i:Int}{t s:qk}{r}(h:jh1 l i t s=some r):jy pr (X pr) 178 [sl 4 zr l,Iv i,.fn (.func 236) [] [.vptr (.fn (.func 176) [] [.vptr (zz t),.vptr (.fn (.func 174) [] [.vptr (zz s)])])]]=some (sl 4 zr r,false):=by
 refine q8y (fun n x y hx hy=>?_) h
 obtain⟨cs,h1,h2⟩:=zdv hx hy
 simp only[jbr]at h1
 exact⟨cs,by rw[zd (show pr.fns 236=some c236 from rfl) (by simp)];simp only[go_sem,seval,c236,h1]<;>rfl,h2⟩
def q63 (x:qi):Option qi:=jw (f181 ⟨x.dn,x.dt⟩) fun d=>jw (f180 x.docs d) fun v=>some { x with docs:=v }
theorem j9o {l:List qi}{i:Nat}{x y:qi}(hx:l[i]?=some x)(h:q63 x=some y):
  ∃cs,zf pr (X pr) 179 [.ptr 0 (i*4)] [.cells (rcl zr l)]=some (.tup [],false,[.cells cs])∧cs.map (·.1)=yw zr (l.set i y):=by
 unfold q63 at h
 have ld:y9 (rcl zr l) (i*4+3) 1=some [sl 2 qab x.docs]:=qgh (o:=3) E_prod.len hx (by decide)
 have ld2:y9 (rcl zr l) (i*4+1) 2=some [sl 2 vsi x.dn,sl 3 zz x.dt]:=qgh (o:=1) E_prod.len hx (by decide)
 have hb:i*4+3<(rcl zr l).length:=qn3 E_prod (o:=3) hx (by decide)
 obtain⟨d,hd,h⟩:=jx h
 obtain⟨v,hv,h⟩:=jx h
 cases h
 have w:jy pr (X pr) 181 [.agg [sl 2 vsi x.dn,sl 3 zz x.dt]]=some (aD d,false):=ze2 hd
 have w2:jy pr (X pr) 180 [sl 2 qab x.docs,aD d]=some (sl 2 qab v,true):=zc0 hv
 have hy:(zr { x with docs:=v }).flat=(zr x).flat.set 3 (sl 2 qab v):=rfl
 exact⟨_,by rw[zd (show pr.fns 179=some c179 from rfl) (by simp)];simp only[go_sem,seval,c179,ld,ld2,w,w2,hb]<;>rfl,qj6 E_prod (o:=3) hx (by decide) hy true⟩
def q8i (l:Option (List qi))(i:Int):Option (Option (List qi)):=chO l i q63
theorem jew {l:Option (List qi)}{i:Int}{r}(h:q8i l i=some r):jy pr (X pr) 178 [sl 4 zr l,Iv i,.fn (.func 179) [] []]=some (sl 4 zr r,false):=
 q8y (fun n x y hx hy=>j9o hx hy) h
def q97 (e:ql)(x:qf):Option qf:=jw (zo (e.names.getD []) 1) fun n=>jw (zo (e.values.getD []) 1) fun b=>jw (f194 x.results ⟨n,x.version,b⟩) fun v=>some { x with results:=v }
theorem zf9 {l:List qf}{i:Nat}{x y:qf}{e:ql}(hx:l[i]?=some x)(h:q97 e x=some y):
  ∃cs,zf pr (X pr) 193 [.ptr 0 (i*8),.vptr (vev e)] [.cells (rcl vun l)]=some (.tup [],false,[.cells cs])∧cs.map (·.1)=yw vun (l.set i y):=by
 unfold q97 at h
 have ld:y9 (rcl vun l) (i*8+4) 1=some [sl 3 zz x.results]:=qgh (o:=4) E_un.len hx (by decide)
 have ld2:y9 (rcl vun l) (i*8+2) 1=some [Iv x.version]:=qgh (o:=2) E_un.len hx (by decide)
 have hb:i*8+4<(rcl vun l).length:=qn3 E_un (o:=4) hx (by decide)
 obtain⟨n,hn,h⟩:=jx h
 obtain⟨b,hbb,h⟩:=jx h
 obtain⟨v,hv,h⟩:=jx h
 cases h
 have w:jy pr (X pr) 194 [sl 3 zz x.results,.agg [.str n,Iv x.version,Iv b]]=some (sl 3 zz v,true):=zdx hv
 have hy:(vun { x with results:=v }).flat=(vun x).flat.set 4 (sl 3 zz v):=rfl
 exact⟨_,by rw[zd (show pr.fns 193=some c193 from rfl) (by simp)];simp only[go_sem,seval,c193,vev,ke hn,ke hbb,ld,ld2,w,hb]<;>rfl,qj6 E_un (o:=4) hx (by decide) hy true⟩
def jhn (l:Option (List qf))(i:Int)(e:ql):Option (Option (List qf)):=chO l i (q97 e)
theorem jfp {l:Option (List qf)}{i:Int}{e:ql}{r}(h:jhn l i e=some r):jy pr (X pr) 189 [sl 8 vun l,Iv i,.fn (.func 193) [] [.vptr (vev e)]]=some (sl 8 vun r,false):=
 qtg (fun n x y hx hy=>zf9 hx hy) h
def qzf (s:qm)(t:qj)(x:qf):Option qf:=jw (f191 x.uses s t) fun v=>some { x with uses:=v.1 }
theorem jn1 {b0 b1 b2 b3:qn}{l:List qf}{i:Nat}{x y:qf}{s:qm}{t:qj}(hx:l[i]?=some x)(h:qzf s t x=some y):
  ∃cs,zf pr (X pr) 190 [.ptr 5 (i*8),.ptr 4 0,.vptr (.fn (.func 187) [] [.vptr (z7 t)])] [b0,b1,b2,b3,.cells [(.str s.k,false),(Iv s.n,false)],.cells (rcl vun l)]=some (.tup [],false,[b0,b1,b2,b3,.cells [(.str s.k,false),(Iv s.n,false)],.cells cs])∧cs.map (·.1)=yw vun (l.set i y):=by
 unfold qzf at h
 have ld:y9 (rcl vun l) (i*8+3) 1=some [sl 2 vsi x.uses]:=qgh (o:=3) E_un.len hx (by decide)
 have hb:i*8+3<(rcl vun l).length:=qn3 E_un (o:=3) hx (by decide)
 obtain⟨v,hv,h⟩:=jx h
 cases h
 have w:jy pr (X pr) 191 [sl 2 vsi x.uses,aN s,.fn (.func 187) [] [.vptr (aL t)]]=some (sl 2 vsi v.1,v.2):=zfu hv
 rcases v with⟨v,o⟩
 have hy:(vun { x with uses:=v }).flat=(vun x).flat.set 3 (sl 2 vsi v):=rfl
 have st:yj (rcl vun l) (i*8+3) [sl 2 vsi v]=some (rcl vun (l.set i { x with uses:=v })):=qc1 (o:=3) E_un.len hx (Nat.le_of_ble_eq_true rfl) (by simp only[List.all,go_sem,Bool.and_self]) rfl
 cases o with
 |true=>exact⟨_,by rw[zd (show pr.fns 190=some c190 from rfl) (by simp)];simp only[go_sem,seval,c190,z7,ld,w,hb]<;>rfl,qj6 E_un (o:=3) hx (by decide) hy true⟩
 |false=>exact⟨_,by rw[zd (show pr.fns 190=some c190 from rfl) (by simp)];simp only[go_sem,seval,c190,z7,ld,w,st]<;>rfl,kw⟩
end Go.Z
namespace Go.Z
open Go Go.Abs Go.W
def stO {α:Type}(l:Option (List α))(i:Int)(x:α):Option (Option (List α)):=
 if(l.getD []).length≤1073741824∧0≤i∧i<(l.getD []).length then some (some ((l.getD []).set i.toNat x))else none
theorem qu7 {α:Type}{l:Option (List α)}{i:Int}{x:α}{r}(h:stO l i x=some r):∃(n:Nat),i=(n:Int)∧(l.getD []).length≤1073741824∧n<(l.getD []).length∧r=some ((l.getD []).set n x):=by
 unfold stO at h
 split at h
 ·rename_i hc
  cases h
  exact⟨i.toNat,(Int.toNat_of_nonneg hc.2.1).symm,hc.1,by omega,rfl⟩
 ·cases h
section
variable {α:Type}{f:α→qa}{sz:Nat}{h:j8}
theorem q7i {l:List α}:cellsOf ((l.map f).flatMap qa.flat)=rcl f l:=rfl
theorem quq (E:Enc f sz){n0 r b t:Nat}{l:Option (List α)}(hl:(l.getD []).length≤1073741824)(hb:b≤4096){h':j8}(hh:newBox n0 h r (.cells (rcl f (l.getD [])))=some h'):qoq n0 r sz b h (some t) (some (.list false sz [])) (some (sl sz f l))=some ⟨.ms (n0+r) 0 (l.getD []).length,false,some t,h'⟩:=by
 have hs:kl sz (sl sz f l)=some ((l.getD []).map f):=q2l
 have h1:0<sz:=by have:=E.big;omega
 simp only[qoq]
 rw[hs]
 simp only[Option.isSome_some,Nat.beq_refl,Bool.and_self,cT,List.length_map,Nat.ble_eq_true_of_le hl,Nat.ble_eq_true_of_le hb,Nat.blt_eq.mpr h1,q7i,hh]
theorem q2b (E:Enc f sz){l:List α}{i:Nat}{y:α}(hi:i<l.length):yj (rcl f l) (i*sz) (f y).flat=some (rcl f (l.set i y)):=by
 have hx:l[i]?=some l[i]:=List.getElem?_eq_getElem hi
 have hl:=E.len l[i]
 have hly:=E.len y
 have:=qc1 (o:=0) (us:=(f y).flat) (y:=y) E.len hx (by omega) (E.sc y) (by rw[List.take_zero,List.nil_append,List.drop_eq_nil_of_le (by omega),List.append_nil])
 rw[Nat.add_zero]at this
 exact this
end
def f206 (a0:qc)(a1:Int)(x:qj):Option qc:=jw (stO a0.lots a1 x) fun v=>some { a0 with lots:=v }
theorem jrj {a0:qc}{a1:Int}{x:qj}{r}(h:f206 a0 a1 x=some r):jy pr (X pr) 206 [aR a0,Iv a1,aL x]=some (aR r,false):=by
 obtain⟨v,hv,h⟩:=jx h
 cases h
 obtain⟨n,rfl,hl,hi,rfl⟩:=qu7 hv
 have ap:qoq 2 0 5 56 [kR a0.day a0.lots a0.products a0.units,kZ,.hole] (some 7) (some (.list false 5 [])) (some (sl 5 z7 a0.lots))=some ⟨.ms 2 0 (a0.lots.getD []).length,false,some 7,[kR a0.day a0.lots a0.products a0.units,kZ,.cells (rcl z7 (a0.lots.getD []))]⟩:=by z8 quq E_lot<;>first|exact hl|rfl|decide
 have st:yj (rcl z7 (a0.lots.getD [])) (n*5) [.str x.name,.str x.kind,Iv x.count,Iv x.left,.bool x.held]=some (rcl z7 ((a0.lots.getD []).set n x)):=q2b (y:=x) E_lot hi
 have this:zf pr (X pr) 206 [aR a0,Iv (n:Int),aL x] []=some (.agg [Iv a0.day,.ms 2 0 (a0.lots.getD []).length,sl 4 zr a0.products,sl 8 vun a0.units],false,[.cells [(Iv a0.day,false),(.ms 2 0 (a0.lots.getD []).length,false),(sl 4 zr a0.products,false),(sl 8 vun a0.units,false)],.cells [(Iv a0.day,false),(.ms 2 0 (a0.lots.getD []).length,false),(sl 4 zr a0.products,false),(sl 8 vun a0.units,false)],.cells (rcl z7 ((a0.lots.getD []).set n x))]):=by
  rw[zd (show pr.fns 206=some c206 from rfl) (by simp)]
  simp only[go_sem,seval,c206,ap,qdz hi,st]<;>rfl
 have fz:qa4 [.cells [(Iv a0.day,false),(.ms 2 0 (a0.lots.getD []).length,false),(sl 4 zr a0.products,false),(sl 8 vun a0.units,false)],.cells [(Iv a0.day,false),(.ms 2 0 (a0.lots.getD []).length,false),(sl 4 zr a0.products,false),(sl 8 vun a0.units,false)],.cells (rcl z7 ((a0.lots.getD []).set n x))] (.ms 2 0 (a0.lots.getD []).length)=some (sl 5 z7 (some ((a0.lots.getD []).set n x))):=by
  have:=qd5 E_lot (l:=(a0.lots.getD []).set n x) (by rw[List.length_set];omega) (cs:=rcl z7 ((a0.lots.getD []).set n x)) kw
  rw[List.length_set]at this
  exact this
 refine kq rfl this (v':=.agg [Iv a0.day,sl 5 z7 (some ((a0.lots.getD []).set n x)),sl 4 zr a0.products,sl 8 vun a0.units]) ?_ (by first|rfl|simp only[go_sem,seval])
 rw[qus]
 simp only[go_sem,seval,fz]<;>rfl
def f205 (a0:qc)(a1:Int)(x:qi):Option qc:=jw (stO a0.products a1 x) fun v=>some { a0 with products:=v }
theorem zgt {a0:qc}{a1:Int}{x:qi}{r}(h:f205 a0 a1 x=some r):jy pr (X pr) 205 [aR a0,Iv a1,aP x]=some (aR r,false):=by
 obtain⟨v,hv,h⟩:=jx h
 cases h
 obtain⟨n,rfl,hl,hi,rfl⟩:=qu7 hv
 have ap:qoq 2 0 4 88 [kR a0.day a0.lots a0.products a0.units,kZ,.hole] (some 7) (some (.list false 4 [])) (some (sl 4 zr a0.products))=some ⟨.ms 2 0 (a0.products.getD []).length,false,some 7,[kR a0.day a0.lots a0.products a0.units,kZ,.cells (rcl zr (a0.products.getD []))]⟩:=by z8 quq E_prod<;>first|exact hl|rfl|decide
 have st:yj (rcl zr (a0.products.getD [])) (n*4) [.str x.name,sl 2 vsi x.dn,sl 3 zz x.dt,sl 2 qab x.docs]=some (rcl zr ((a0.products.getD []).set n x)):=q2b (y:=x) E_prod hi
 have this:zf pr (X pr) 205 [aR a0,Iv (n:Int),aP x] []=some (.agg [Iv a0.day,sl 5 z7 a0.lots,.ms 2 0 (a0.products.getD []).length,sl 8 vun a0.units],false,[.cells [(Iv a0.day,false),(sl 5 z7 a0.lots,false),(.ms 2 0 (a0.products.getD []).length,false),(sl 8 vun a0.units,false)],.cells [(Iv a0.day,false),(sl 5 z7 a0.lots,false),(.ms 2 0 (a0.products.getD []).length,false),(sl 8 vun a0.units,false)],.cells (rcl zr ((a0.products.getD []).set n x))]):=by
  rw[zd (show pr.fns 205=some c205 from rfl) (by simp)]
  simp only[go_sem,seval,c205,ap,qdz hi,st]<;>rfl
 have fz:qa4 [.cells [(Iv a0.day,false),(sl 5 z7 a0.lots,false),(.ms 2 0 (a0.products.getD []).length,false),(sl 8 vun a0.units,false)],.cells [(Iv a0.day,false),(sl 5 z7 a0.lots,false),(.ms 2 0 (a0.products.getD []).length,false),(sl 8 vun a0.units,false)],.cells (rcl zr ((a0.products.getD []).set n x))] (.ms 2 0 (a0.products.getD []).length)=some (sl 4 zr (some ((a0.products.getD []).set n x))):=by
  have:=qd5 E_prod (l:=(a0.products.getD []).set n x) (by rw[List.length_set];omega) (cs:=rcl zr ((a0.products.getD []).set n x)) kw
  rw[List.length_set]at this
  exact this
 refine kq rfl this (v':=.agg [Iv a0.day,sl 5 z7 a0.lots,sl 4 zr (some ((a0.products.getD []).set n x)),sl 8 vun a0.units]) ?_ (by first|rfl|simp only[go_sem,seval])
 rw[qus]
 simp only[go_sem,seval,fz]<;>rfl
def f209 (a0:qc)(a1:Int)(x:qf):Option qc:=jw (stO a0.units a1 x) fun v=>some { a0 with units:=v }
theorem jfx {a0:qc}{a1:Int}{x:qf}{r}(h:f209 a0 a1 x=some r):jy pr (X pr) 209 [aR a0,Iv a1,aU x]=some (aR r,false):=by
 obtain⟨v,hv,h⟩:=jx h
 cases h
 obtain⟨n,rfl,hl,hi,rfl⟩:=qu7 hv
 have ap:qoq 2 0 8 120 [kR a0.day a0.lots a0.products a0.units,kZ,.hole] (some 7) (some (.list false 8 [])) (some (sl 8 vun a0.units))=some ⟨.ms 2 0 (a0.units.getD []).length,false,some 7,[kR a0.day a0.lots a0.products a0.units,kZ,.cells (rcl vun (a0.units.getD []))]⟩:=by z8 quq E_un<;>first|exact hl|rfl|decide
 have st:yj (rcl vun (a0.units.getD [])) (n*8) [.str x.name,.str x.product,Iv x.version,sl 2 vsi x.uses,sl 3 zz x.results,.str x.partner,.bool x.shipped,Iv x.complaints]=some (rcl vun ((a0.units.getD []).set n x)):=q2b (y:=x) E_un hi
 have this:zf pr (X pr) 209 [aR a0,Iv (n:Int),aU x] []=some (.agg [Iv a0.day,sl 5 z7 a0.lots,sl 4 zr a0.products,.ms 2 0 (a0.units.getD []).length],false,[.cells [(Iv a0.day,false),(sl 5 z7 a0.lots,false),(sl 4 zr a0.products,false),(.ms 2 0 (a0.units.getD []).length,false)],.cells [(Iv a0.day,false),(sl 5 z7 a0.lots,false),(sl 4 zr a0.products,false),(.ms 2 0 (a0.units.getD []).length,false)],.cells (rcl vun ((a0.units.getD []).set n x))]):=by
  rw[zd (show pr.fns 209=some c209 from rfl) (by simp)]
  simp only[go_sem,seval,c209,ap,qdz hi,st]<;>rfl
 have fz:qa4 [.cells [(Iv a0.day,false),(sl 5 z7 a0.lots,false),(sl 4 zr a0.products,false),(.ms 2 0 (a0.units.getD []).length,false)],.cells [(Iv a0.day,false),(sl 5 z7 a0.lots,false),(sl 4 zr a0.products,false),(.ms 2 0 (a0.units.getD []).length,false)],.cells (rcl vun ((a0.units.getD []).set n x))] (.ms 2 0 (a0.units.getD []).length)=some (sl 8 vun (some ((a0.units.getD []).set n x))):=by
  have:=qd5 E_un (l:=(a0.units.getD []).set n x) (by rw[List.length_set];omega) (cs:=rcl vun ((a0.units.getD []).set n x)) kw
  rw[List.length_set]at this
  exact this
 refine kq rfl this (v':=.agg [Iv a0.day,sl 5 z7 a0.lots,sl 4 zr a0.products,sl 8 vun (some ((a0.units.getD []).set n x))]) ?_ (by first|rfl|simp only[go_sem,seval])
 rw[qus]
 simp only[go_sem,seval,fz]<;>rfl
end Go.Z
namespace Go.Z
open Go Go.Abs Go.W
def qk6 (a0:Option (List qm))(a1:qm)(s0:(Option (List qm))×Bool×Int×Bool):Option (((Option (List qm))×Bool×Int×Bool)⊕(((Option (List qm))×Bool×Bool×Int))):=
 cond (decide (s0.2.2.1<((a0.getD []).length:Int)))
  (jw (zo (a0.getD []) s0.2.2.1) fun v24=>
  cond (decide (v24.k=a1.k))
   (cond (decide (0<a1.n))
    (cond s0.2.2.2
     (jw (apO s0.1 [a1]) fun v29=>
     some (.inl (v29,true,j6 .i64 (s0.2.2.1+1),true)))
     (cond s0.1.isNone
      (jw (apO s0.1 [a1]) fun v32=>
      some (.inl (v32,true,j6 .i64 (s0.2.2.1+1),true)))
      (none)))
    (some (.inl (s0.1,true,j6 .i64 (s0.2.2.1+1),s0.2.2.2))))
   (cond s0.2.2.2
    (jw (apO s0.1 [v24]) fun v35=>
    some (.inl (v35,s0.2.1,j6 .i64 (s0.2.2.1+1),true)))
    (cond s0.1.isNone
     (jw (apO s0.1 [v24]) fun v38=>
     some (.inl (v38,s0.2.1,j6 .i64 (s0.2.2.1+1),true)))
     (none))))
  (some (.inr (s0.1,s0.2.2.2,s0.2.1,s0.2.2.1)))
def qoe (a0:Option (List qm))(a1:qm)(s0:(Option (List qm))×Bool×Int×Bool):qg:=⟨[(0,sl 2 vsi a0,false),(3,.vptr (aN a1),false),(5,sl 2 vsi s0.1,s0.2.2.2),(6,.bool s0.2.1,false),(7,Iv s0.2.2.1,false)],[]⟩
def qnd (a0:Option (List qm))(a1:qm)(d:((Option (List qm))×Bool×Bool×Int)):qo×qg:=(.exit 0,⟨[(0,sl 2 vsi a0,false),(3,.vptr (aN a1),false),(5,sl 2 vsi d.1,d.2.1),(6,.bool d.2.2.1,false),(7,Iv d.2.2.2,false),(11,.bool false,false)],[]⟩)
theorem jso (a0:Option (List qm))(a1:qm)(s0:(Option (List qm))×Bool×Int×Bool)(r)(h:qk6 a0 a1 s0=some r):yq pr qqn (qoe a0 a1) (qnd a0 a1) s0 r:=by
 unfold qk6 at h
 repeat' first|(replace h:=jx h;obtain⟨d,g,h⟩:=h;with_reducible first|replace g:=qho g|skip)|(replace h:=jz h;rcases h with⟨g,h⟩|⟨g,h⟩)|fail
 all_goals (cases h<;>(first|(refine zw ?_;simp only[go_sem,seval,qqn,qoe,zn,qnd,*]<;>rfl)|(refine yl ?_;simp only[go_sem,seval,qqn,qoe,zn,qnd,*]<;>rfl)))
theorem joj (a0:Option (List qm))(a1:qm){s0:(Option (List qm))×Bool×Int×Bool}{d}(h:itO (qk6 a0 a1) s0=some d):X pr (.loop qqn) (qoe a0 a1 s0)=some (qnd a0 a1 d):=y8 (jso a0 a1) (fun d hh=>by cases hh) h
def f203 (a0:Option (List qm))(a1:qm):Option ((Option (List qm))×Bool):=
 jw (itO (qk6 a0 a1) (none,false,0,false)) fun d40=>
 cond d40.2.2.1
  (some (d40.1,d40.2.1))
  (cond (decide (0<a1.n))
   (cond d40.2.1
    (jw (apO d40.1 [a1]) fun v45=>
    some (v45,true))
    (cond d40.1.isNone
     (jw (apO d40.1 [a1]) fun v48=>
     some (v48,true))
     (none)))
   (some (d40.1,d40.2.1)))
theorem j9x {a0:Option (List qm)}{a1:qm}{r}(h:f203 a0 a1=some r):jy pr (X pr) 203 [sl 2 vsi a0,aN a1]=some (sl 2 vsi r.1,r.2):=by
 unfold f203 at h
 refine qa5 c203 ?_
 repeat' first|(replace h:=jx h;obtain⟨d,g,h⟩:=h;with_reducible first|replace g:=qho g|(replace g:=joj a0 a1 g;dsimp only[qoe,qnd,kc]at g h)|skip)|(replace h:=jz h;rcases h with⟨g,h⟩|⟨g,h⟩)|fail
 all_goals (cases h<;>(simp only[go_sem,seval,c203,*];exact⟨_,rfl⟩))
def qkf (a0:Option (List qk))(a1:qk)(s0:(Option (List qk))×Bool×Int×Bool):Option (((Option (List qk))×Bool×Int×Bool)⊕(((Option (List qk))×Bool×Bool×Int))):=
 cond (decide (s0.2.2.1<((a0.getD []).length:Int)))
  (jw (zo (a0.getD []) s0.2.2.1) fun v22=>
  cond (decide (v22.k=a1.k))
   (cond s0.2.2.2
    (jw (apO s0.1 [a1]) fun v26=>
    some (.inl (v26,true,j6 .i64 (s0.2.2.1+1),true)))
    (cond s0.1.isNone
     (jw (apO s0.1 [a1]) fun v29=>
     some (.inl (v29,true,j6 .i64 (s0.2.2.1+1),true)))
     (none)))
   (cond s0.2.2.2
    (jw (apO s0.1 [v22]) fun v32=>
    some (.inl (v32,s0.2.1,j6 .i64 (s0.2.2.1+1),true)))
    (cond s0.1.isNone
     (jw (apO s0.1 [v22]) fun v35=>
     some (.inl (v35,s0.2.1,j6 .i64 (s0.2.2.1+1),true)))
     (none))))
  (some (.inr (s0.1,s0.2.2.2,s0.2.1,s0.2.2.1)))
def qnj (a0:Option (List qk))(a1:qk)(s0:(Option (List qk))×Bool×Int×Bool):qg:=⟨[(0,sl 3 zz a0,false),(3,.vptr (aT a1),false),(5,sl 3 zz s0.1,s0.2.2.2),(6,.bool s0.2.1,false),(7,Iv s0.2.2.1,false)],[]⟩
def qny (a0:Option (List qk))(a1:qk)(d:((Option (List qk))×Bool×Bool×Int)):qo×qg:=(.exit 0,⟨[(0,sl 3 zz a0,false),(3,.vptr (aT a1),false),(5,sl 3 zz d.1,d.2.1),(6,.bool d.2.2.1,false),(7,Iv d.2.2.2,false),(11,.bool false,false)],[]⟩)
theorem jo6 (a0:Option (List qk))(a1:qk)(s0:(Option (List qk))×Bool×Int×Bool)(r)(h:qkf a0 a1 s0=some r):yq pr qr0 (qnj a0 a1) (qny a0 a1) s0 r:=by
 unfold qkf at h
 repeat' first|(replace h:=jx h;obtain⟨d,g,h⟩:=h;with_reducible first|replace g:=qgz g|skip)|(replace h:=jz h;rcases h with⟨g,h⟩|⟨g,h⟩)|fail
 all_goals (cases h<;>(first|(refine zw ?_;simp only[go_sem,seval,qr0,qnj,zn,qny,*]<;>rfl)|(refine yl ?_;simp only[go_sem,seval,qr0,qnj,zn,qny,*]<;>rfl)))
theorem jrg (a0:Option (List qk))(a1:qk){s0:(Option (List qk))×Bool×Int×Bool}{d}(h:itO (qkf a0 a1) s0=some d):X pr (.loop qr0) (qnj a0 a1 s0)=some (qny a0 a1 d):=y8 (jo6 a0 a1) (fun d hh=>by cases hh) h
def f204 (a0:Option (List qk))(a1:qk):Option ((Option (List qk))×Bool):=
 jw (itO (qkf a0 a1) (none,false,0,false)) fun d37=>
 cond d37.2.2.1
  (some (d37.1,d37.2.1))
  (cond d37.2.1
   (jw (apO d37.1 [a1]) fun v41=>
   some (v41,true))
   (cond d37.1.isNone
    (jw (apO d37.1 [a1]) fun v44=>
    some (v44,true))
    (none)))
theorem j9c {a0:Option (List qk)}{a1:qk}{r}(h:f204 a0 a1=some r):jy pr (X pr) 204 [sl 3 zz a0,aT a1]=some (sl 3 zz r.1,r.2):=by
 unfold f204 at h
 refine qa5 c204 ?_
 repeat' first|(replace h:=jx h;obtain⟨d,g,h⟩:=h;with_reducible first|replace g:=qgz g|(replace g:=jrg a0 a1 g;dsimp only[qnj,qny,kc]at g h)|skip)|(replace h:=jz h;rcases h with⟨g,h⟩|⟨g,h⟩)|fail
 all_goals (cases h<;>(simp only[go_sem,seval,c204,*];exact⟨_,rfl⟩))
def qk4 (a0:Option (List qm))(a1:List UInt8)(a2:Int)(s0:(Option (List qm))×Bool×Int×Bool):Option (((Option (List qm))×Bool×Int×Bool)⊕(((Option (List qm))×Bool×Bool×Int))):=
 cond (decide (s0.2.2.1<((a0.getD []).length:Int)))
  (jw (zo (a0.getD []) s0.2.2.1) fun v22=>
  cond (decide (v22.k=a1))
   (cond s0.2.2.2
    (jw (apO s0.1 [⟨v22.k,j6 .i64 (v22.n+a2)⟩]) fun v26=>
    some (.inl (v26,true,j6 .i64 (s0.2.2.1+1),true)))
    (cond s0.1.isNone
     (jw (apO s0.1 [⟨v22.k,j6 .i64 (v22.n+a2)⟩]) fun v29=>
     some (.inl (v29,true,j6 .i64 (s0.2.2.1+1),true)))
     (none)))
   (cond s0.2.2.2
    (jw (apO s0.1 [v22]) fun v32=>
    some (.inl (v32,s0.2.1,j6 .i64 (s0.2.2.1+1),true)))
    (cond s0.1.isNone
     (jw (apO s0.1 [v22]) fun v35=>
     some (.inl (v35,s0.2.1,j6 .i64 (s0.2.2.1+1),true)))
     (none))))
  (some (.inr (s0.1,s0.2.2.2,s0.2.1,s0.2.2.1)))
def qh6 (a0:Option (List qm))(a1:List UInt8)(a2:Int)(s0:(Option (List qm))×Bool×Int×Bool):qg:=⟨[(0,sl 2 vsi a0,false),(1,.str a1,false),(2,Iv a2,false),(7,sl 2 vsi s0.1,s0.2.2.2),(8,.bool s0.2.1,false),(9,Iv s0.2.2.1,false)],[]⟩
def qmw (a0:Option (List qm))(a1:List UInt8)(a2:Int)(d:((Option (List qm))×Bool×Bool×Int)):qo×qg:=(.exit 0,⟨[(0,sl 2 vsi a0,false),(1,.str a1,false),(2,Iv a2,false),(7,sl 2 vsi d.1,d.2.1),(8,.bool d.2.2.1,false),(9,Iv d.2.2.2,false),(14,.bool false,false)],[]⟩)
theorem jtz (a0:Option (List qm))(a1:List UInt8)(a2:Int)(s0:(Option (List qm))×Bool×Int×Bool)(r)(h:qk4 a0 a1 a2 s0=some r):yq pr qrt (qh6 a0 a1 a2) (qmw a0 a1 a2) s0 r:=by
 unfold qk4 at h
 repeat' first|(replace h:=jx h;obtain⟨d,g,h⟩:=h;with_reducible first|replace g:=qho g|skip)|(replace h:=jz h;rcases h with⟨g,h⟩|⟨g,h⟩)|fail
 all_goals (cases h<;>(first|(refine zw ?_;simp only[go_sem,seval,qrt,qh6,zn,qmw,*]<;>rfl)|(refine q6k ?_ rfl (by first|simp only[go_sem,seval,qh6]|rfl) (by first|simp only[go_sem,seval,qh6]|rfl);simp only[go_sem,seval,qrt,qh6,zn,qmw,*];exact⟨_,rfl⟩)))
theorem jqc (a0:Option (List qm))(a1:List UInt8)(a2:Int){s0:(Option (List qm))×Bool×Int×Bool}{d}(h:itO (qk4 a0 a1 a2) s0=some d):X pr (.loop qrt) (qh6 a0 a1 a2 s0)=some (qmw a0 a1 a2 d):=y8 (jtz a0 a1 a2) (fun d hh=>by cases hh) h
def f252 (a0:Option (List qm))(a1:List UInt8)(a2:Int):Option ((Option (List qm))×Bool):=
 jw (itO (qk4 a0 a1 a2) (none,false,0,false)) fun d37=>
 cond d37.2.2.1
  (some (d37.1,d37.2.1))
  (cond d37.2.1
   (jw (apO d37.1 [⟨a1,a2⟩]) fun v41=>
   some (v41,true))
   (cond d37.1.isNone
    (jw (apO d37.1 [⟨a1,a2⟩]) fun v44=>
    some (v44,true))
    (none)))
theorem zen {a0:Option (List qm)}{a1:List UInt8}{a2:Int}{r}(h:f252 a0 a1 a2=some r):jy pr (X pr) 252 [sl 2 vsi a0,.str a1,Iv a2]=some (sl 2 vsi r.1,r.2):=by
 unfold f252 at h
 refine qa5 c252 ?_
 repeat' first|(replace h:=jx h;obtain⟨d,g,h⟩:=h;with_reducible first|replace g:=qho g|(replace g:=jqc a0 a1 a2 g;dsimp only[qh6,qmw,kc]at g h)|skip)|(replace h:=jz h;rcases h with⟨g,h⟩|⟨g,h⟩)|fail
 all_goals (cases h<;>(simp only[go_sem,seval,c252,*];exact⟨_,rfl⟩))
def f124 (a0:qc)(a1:ql):Option (qc×Int):=
 jw (zo (a1.names.getD []) 0) fun v1=>
 cond (decide (a1.kind=([108,111,116]:List UInt8)))
  (jw (f28 a0 v1) fun v4=>
  cond (decide (0≤v4))
   (some (a0,9))
   (jw (zo (a1.values.getD []) 1) fun v7=>
   jw (f59 v7 1 10000) fun v9=>
   cond v9
    (some (a0,3))
    (cond (decide (64≤((a0.lots.getD []).length:Int)))
     (some (a0,5))
     (jw (apO (some []) (a0.lots.getD [])) fun v13=>
     jw (zo (a1.names.getD []) 1) fun v15=>
     jw (apO v13 [⟨v1,v15,v7,v7,false⟩]) fun v17=>
     some (⟨a0.day,v17,a0.products,a0.units⟩,0)))))
  (cond (decide (a1.kind=([112,114,111,100,117,99,116]:List UInt8)))
   (jw (f144 a0 v1) fun v20=>
   cond (decide (0≤v20))
    (some (a0,9))
    (cond (decide (16≤((a0.products.getD []).length:Int)))
     (some (a0,5))
     (jw (apO (some []) (a0.products.getD [])) fun v24=>
     jw (apO v24 [⟨v1,none,none,none⟩]) fun v26=>
     some (⟨a0.day,a0.lots,v26,a0.units⟩,0))))
   (jw (zo (a1.names.getD []) 1) fun v28=>
   jw (f144 a0 v28) fun v30=>
   cond (decide (v30<0))
    (some (a0,10))
    (jw (f27 a0 v1) fun v33=>
    cond (decide (0≤v33))
     (some (a0,9))
     (jw (zo (a0.products.getD []) v30) fun v36=>
     cond (decide (((v36.docs.getD []).length:Int)=0))
      (some (a0,32))
      (cond (decide (256≤((a0.units.getD []).length:Int)))
       (some (a0,5))
       (jw (apO (some []) (a0.units.getD [])) fun v40=>
       jw (apO v40 [⟨v1,v28,((v36.docs.getD []).length:Int),none,none,[],false,0⟩]) fun v42=>
       some (⟨a0.day,a0.lots,a0.products,v42⟩,0)))))))
theorem zhx {a0:qc}{a1:ql}{r}(h:f124 a0 a1=some r):jy pr (X pr) 124 [aR a0,aE a1]=some (.tup [aR r.1,Iv r.2],false):=by
 unfold f124 at h
 refine y7 c124 ?_
 repeat' first|(replace h:=jx h;obtain⟨d,g,h⟩:=h; (with_reducible first|replace g:=W28 g|replace g:=W59 g|replace g:=q8r g|replace g:=W27 g|replace g:=qs8 g|replace g:=quj g|replace g:=q2k g|skip);try dsimp only[kc,qfs,List.map,kr,qae,z7,zr,vun,yb,vev,vsi,zz,qab,aE,aR,aU,aL,aP,aD]at g)|(replace h:=jz h;rcases h with⟨g,h⟩|⟨g,h⟩)|fail
 all_goals (cases h<;>(simp only[go_sem,seval,c124,zn,qa0,*];exact⟨_,rfl⟩))
end Go.Z
end
