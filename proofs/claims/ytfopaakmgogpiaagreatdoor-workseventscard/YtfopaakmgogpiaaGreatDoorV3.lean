/- Chapter 10. -/
import Derived.Test.YtfopaakmgogpiaaGreatDoorV0
import Derived.Test.YtfopaakmgogpiaaGreatDoorW8
import Derived.Test.YtfopaakmgogpiaaGreatDoorW3
import Derived.Test.YtfopaakmgogpiaaGreatDoorAbsL
set_option linter.unusedVariables false
set_option linter.unusedSimpArgs false
set_option maxRecDepth 100000
set_option maxHeartbeats 4000000
noncomputable section
namespace Go.Z
open Go Go.Abs Go.W
theorem qlu {α:Type}{f:α→qa}{sz:Nat}(E:Enc f sz){l:List α}{i o:Nat}{x y:α}{u:qa}(hx:l[i]?=some x)(ho:o<sz)(hy:(f y).flat=(f x).flat.set o u)(w:Bool):((rcl f l).set (i*sz+o) (u,w)).map (·.1)=kc f (l.set i y):=by
 have h:=congrArg (List.map (·.1)) (q5d E.len hx ho hy)
 rw[List.map_set]at h ⊢
 rw[show(rcl f (l.set i y)).map (·.1)=kc f (l.set i y)from qah]at h
 exact h
theorem qpk {α:Type}{f:α→qa}{sz:Nat}(E:Enc f sz){l:List α}{i o:Nat}{x:α}(hx:l[i]?=some x)(ho:o<sz):i*sz+o<(rcl f l).length:=by
 have h:=(qg3 (n:=1) (o:=o) E.len hx (by omega)).2
 simp only[rcl,cellsOf,List.length_map]
 omega
def q2a (c:Int)(nm k:List UInt8)(x:qk):Option qk:=cond (decide (c=0))
 (jy (f171 x.dn nm) fun v=>some { x with dn:=v.1 })
 (jy (f173 x.dn ⟨k,c⟩ nm) fun v=>some { x with dn:=v.1 })
theorem zba {l:List qk}{i:Nat}{x y:qk}{c:Int}{nm k:List UInt8}(hx:l[i]?=some x)(h:q2a c nm k x=some y):
  ∃cs,zj pr (X pr) 170 [.ptr 0 (i*4+1),.vptr (Iv c),.vptr (.fn (.func 167) [] [.vptr (.str nm)]),.vptr (.str k)] [.cells (rcl za l)]=some (.tup [],false,[.cells cs])∧cs.map (·.1)=kc za (l.set i y):=by
 unfold q2a at h
 have ld:kn (rcl za l) (i*4+1) 1=some [sl 2 vsi x.dn]:=qhi (o:=1) E_prod.len hx (by decide)
 have hb:=qpk E_prod (o:=1) hx (by decide)
 rcases jx h with⟨h1,h⟩|⟨h1,h⟩
 ·obtain⟨v,hv,h⟩:=jw h
  cases h
  have w:=j41 [.cells (rcl za l)] hv
  rcases v with⟨v,o⟩
  have hy:(za { x with dn:=v }).flat=(za x).flat.set 1 (sl 2 vsi v):=rfl
  have st:yu (rcl za l) (i*4+1) [sl 2 vsi v]=some (rcl za (l.set i { x with dn:=v })):=qdp (o:=1) E_prod.len hx (Nat.le_of_ble_eq_true rfl) (by simp only[List.all,go_sem,Bool.and_self]) rfl
  cases o with
  |true=>exact⟨_,by rw[zc (show pr.fns 170=some c170 from rfl) (by simp)];simp only[go_sem,seval,c170,h1,ld,w,hb]<;>rfl,qlu E_prod hx (by decide) hy true⟩
  |false=>exact⟨_,by rw[zc (show pr.fns 170=some c170 from rfl) (by simp)];simp only[go_sem,seval,c170,h1,ld,w,st]<;>rfl,qah⟩
 obtain⟨v,hv,h⟩:=jw h
 cases h
 have w:j6 pr (X pr) 173 [sl 2 vsi x.dn,.agg [.str k,Iv c],.fn (.func 167) [] [.vptr (.str nm)]]=some (sl 2 vsi v.1,v.2):=j8k hv
 rcases v with⟨v,o⟩
 have hy:(za { x with dn:=v }).flat=(za x).flat.set 1 (sl 2 vsi v):=rfl
 have st:yu (rcl za l) (i*4+1) [sl 2 vsi v]=some (rcl za (l.set i { x with dn:=v })):=qdp (o:=1) E_prod.len hx (Nat.le_of_ble_eq_true rfl) (by simp only[List.all,go_sem,Bool.and_self]) rfl
 cases o with
 |true=>exact⟨_,by rw[zc (show pr.fns 170=some c170 from rfl) (by simp)];simp only[go_sem,seval,c170,h1,ld,w,hb]<;>rfl,qlu E_prod hx (by decide) hy true⟩
 |false=>exact⟨_,by rw[zc (show pr.fns 170=some c170 from rfl) (by simp)];simp only[go_sem,seval,c170,h1,ld,w,st]<;>rfl,qah⟩
def jfn (l:Option (List qk))(i:Int)(c:Int)(nm k:List UInt8):Option (Option (List qk)):=chO l i (q2a c nm k)
theorem jee {l:Option (List qk)}{i:Int}{c:Int}{nm k:List UInt8}{r}(h:jfn l i c nm k=some r):j6 pr (X pr) 178 [sl 4 za l,Iv i,.fn (.func 236) [] [.vptr (.fn (.func 170) [] [.vptr (Iv c),.vptr (.fn (.func 167) [] [.vptr (.str nm)]),.vptr (.str k)])]]=some (sl 4 za r,false):=by
 refine q7p (fun n x y hx hy=>?_) h
 obtain⟨cs,h1,h2⟩:=zba hx hy
 exact⟨cs,by rw[zc (show pr.fns 236=some c236 from rfl) (by simp)];simp only[go_sem,seval,c236,h1]<;>rfl,h2⟩
def q2r (t s:qi)(x:qk):Option qk:=jy (f177 x.dt t s) fun v=>some { x with dt:=v.1 }
theorem j60 {l:List qk}{i:Nat}{x y:qk}{t s:qi}(hx:l[i]?=some x)(h:q2r t s x=some y):
  ∃cs,zj pr (X pr) 176 [.ptr 0 (i*4+1),.vptr (zp t),.vptr (.fn (.func 174) [] [.vptr (zp s)])] [.cells (rcl za l)]=some (.tup [],false,[.cells cs])∧cs.map (·.1)=kc za (l.set i y):=by
 unfold q2r at h
 have ld:kn (rcl za l) (i*4+1+1) 1=some [sl 3 zp x.dt]:=qhi (o:=2) E_prod.len hx (by decide)
 have hb:i*4+1+1<(rcl za l).length:=qpk E_prod (o:=2) hx (by decide)
 obtain⟨v,hv,h⟩:=jw h
 cases h
 have w:j6 pr (X pr) 177 [sl 3 zp x.dt,.agg [.str t.k,Iv t.a,Iv t.b],.fn (.func 174) [] [.vptr (.agg [.str s.k,Iv s.a,Iv s.b])]]=some (sl 3 zp v.1,v.2):=j3o hv
 rcases v with⟨v,o⟩
 have hy:(za { x with dt:=v }).flat=(za x).flat.set 2 (sl 3 zp v):=rfl
 have st:yu (rcl za l) (i*4+1+1) [sl 3 zp v]=some (rcl za (l.set i { x with dt:=v })):=qdp (o:=2) E_prod.len hx (Nat.le_of_ble_eq_true rfl) (by simp only[List.all,go_sem,Bool.and_self]) rfl
 cases o with
 |true=>exact⟨_,by rw[zc (show pr.fns 176=some c176 from rfl) (by simp)];simp only[go_sem,seval,c176,zp,ld,w,hb]<;>rfl,qlu E_prod (o:=2) hx (by decide) hy true⟩
 |false=>exact⟨_,by rw[zc (show pr.fns 176=some c176 from rfl) (by simp)];simp only[go_sem,seval,c176,zp,ld,w,st]<;>rfl,qah⟩
def jcl (l:Option (List qk))(i:Int)(t s:qi):Option (Option (List qk)):=chO l i (q2r t s)
theorem jdp {l:Option (List qk)}{i:Int}{t s:qi}{r}(h:jcl l i t s=some r):j6 pr (X pr) 178 [sl 4 za l,Iv i,.fn (.func 236) [] [.vptr (.fn (.func 176) [] [.vptr (zp t),.vptr (.fn (.func 174) [] [.vptr (zp s)])])]]=some (sl 4 za r,false):=by
 refine q7p (fun n x y hx hy=>?_) h
 obtain⟨cs,h1,h2⟩:=j60 hx hy
 simp only[jbs]at h1
 exact⟨cs,by rw[zc (show pr.fns 236=some c236 from rfl) (by simp)];simp only[go_sem,seval,c236,h1]<;>rfl,h2⟩
def q65 (x:qk):Option qk:=jy (f181 ⟨x.dn,x.dt⟩) fun d=>jy (f180 x.docs d) fun v=>some { x with docs:=v }
theorem j56 {l:List qk}{i:Nat}{x y:qk}(hx:l[i]?=some x)(h:q65 x=some y):
  ∃cs,zj pr (X pr) 179 [.ptr 0 (i*4)] [.cells (rcl za l)]=some (.tup [],false,[.cells cs])∧cs.map (·.1)=kc za (l.set i y):=by
 unfold q65 at h
 have ld:kn (rcl za l) (i*4+3) 1=some [sl 2 qbi x.docs]:=qhi (o:=3) E_prod.len hx (by decide)
 have ld2:kn (rcl za l) (i*4+1) 2=some [sl 2 vsi x.dn,sl 3 zp x.dt]:=qhi (o:=1) E_prod.len hx (by decide)
 have hb:i*4+3<(rcl za l).length:=qpk E_prod (o:=3) hx (by decide)
 obtain⟨d,hd,h⟩:=jw h
 obtain⟨v,hv,h⟩:=jw h
 cases h
 have w:j6 pr (X pr) 181 [.agg [sl 2 vsi x.dn,sl 3 zp x.dt]]=some (.agg [sl 2 vsi d.needs,sl 3 zp d.tests],false):=j46 hd
 have w2:j6 pr (X pr) 180 [sl 2 qbi x.docs,.agg [sl 2 vsi d.needs,sl 3 zp d.tests]]=some (sl 2 qbi v,true):=j7a hv
 have hy:(za { x with docs:=v }).flat=(za x).flat.set 3 (sl 2 qbi v):=rfl
 exact⟨_,by rw[zc (show pr.fns 179=some c179 from rfl) (by simp)];simp only[go_sem,seval,c179,ld,ld2,w,w2,hb]<;>rfl,qlu E_prod (o:=3) hx (by decide) hy true⟩
def q7l (l:Option (List qk))(i:Int):Option (Option (List qk)):=chO l i q65
theorem jfu {l:Option (List qk)}{i:Int}{r}(h:q7l l i=some r):j6 pr (X pr) 178 [sl 4 za l,Iv i,.fn (.func 179) [] []]=some (sl 4 za r,false):=
 q7p (fun n x y hx hy=>j56 hx hy) h
def q7n (e:ql)(x:qe):Option qe:=jy (zz (e.names.getD []) 1) fun n=>jy (zz (e.values.getD []) 1) fun b=>jy (f194 x.results ⟨n,x.version,b⟩) fun v=>some { x with results:=v }
theorem j8s {l:List qe}{i:Nat}{x y:qe}{e:ql}(hx:l[i]?=some x)(h:q7n e x=some y):
  ∃cs,zj pr (X pr) 193 [.ptr 0 (i*8),.vptr (vev e)] [.cells (rcl vun l)]=some (.tup [],false,[.cells cs])∧cs.map (·.1)=kc vun (l.set i y):=by
 unfold q7n at h
 have ld:kn (rcl vun l) (i*8+4) 1=some [sl 3 zp x.results]:=qhi (o:=4) E_un.len hx (by decide)
 have ld2:kn (rcl vun l) (i*8+2) 1=some [Iv x.version]:=qhi (o:=2) E_un.len hx (by decide)
 have hb:i*8+4<(rcl vun l).length:=qpk E_un (o:=4) hx (by decide)
 obtain⟨n,hn,h⟩:=jw h
 obtain⟨b,hbb,h⟩:=jw h
 obtain⟨v,hv,h⟩:=jw h
 cases h
 have w:j6 pr (X pr) 194 [sl 3 zp x.results,.agg [.str n,Iv x.version,Iv b]]=some (sl 3 zp v,true):=j3v hv
 have hy:(vun { x with results:=v }).flat=(vun x).flat.set 4 (sl 3 zp v):=rfl
 exact⟨_,by rw[zc (show pr.fns 193=some c193 from rfl) (by simp)];simp only[go_sem,seval,c193,vev,jz hn,jz hbb,ld,ld2,w,hb]<;>rfl,qlu E_un (o:=4) hx (by decide) hy true⟩
def jcj (l:Option (List qe))(i:Int)(e:ql):Option (Option (List qe)):=chO l i (q7n e)
theorem jdy {l:Option (List qe)}{i:Int}{e:ql}{r}(h:jcj l i e=some r):j6 pr (X pr) 189 [sl 8 vun l,Iv i,.fn (.func 193) [] [.vptr (vev e)]]=some (sl 8 vun r,false):=
 qum (fun n x y hx hy=>j8s hx hy) h
def qzv (s:qm)(t:qj)(x:qe):Option qe:=jy (f191 x.uses s t) fun v=>some { x with uses:=v.1 }
theorem jmo {b0 b1 b2 b3:qr}{l:List qe}{i:Nat}{x y:qe}{s:qm}{t:qj}(hx:l[i]?=some x)(h:qzv s t x=some y):
  ∃cs,zj pr (X pr) 190 [.ptr 5 (i*8),.ptr 4 0,.vptr (.fn (.func 187) [] [.vptr (zg t)])] [b0,b1,b2,b3,.cells [(.str s.k,false),(Iv s.n,false)],.cells (rcl vun l)]=some (.tup [],false,[b0,b1,b2,b3,.cells [(.str s.k,false),(Iv s.n,false)],.cells cs])∧cs.map (·.1)=kc vun (l.set i y):=by
 unfold qzv at h
 have ld:kn (rcl vun l) (i*8+3) 1=some [sl 2 vsi x.uses]:=qhi (o:=3) E_un.len hx (by decide)
 have hb:i*8+3<(rcl vun l).length:=qpk E_un (o:=3) hx (by decide)
 obtain⟨v,hv,h⟩:=jw h
 cases h
 have w:j6 pr (X pr) 191 [sl 2 vsi x.uses,.agg [.str s.k,Iv s.n],.fn (.func 187) [] [.vptr (.agg [.str t.name,.str t.kind,Iv t.count,Iv t.left,.bool t.held])]]=some (sl 2 vsi v.1,v.2):=j4p hv
 rcases v with⟨v,o⟩
 have hy:(vun { x with uses:=v }).flat=(vun x).flat.set 3 (sl 2 vsi v):=rfl
 have st:yu (rcl vun l) (i*8+3) [sl 2 vsi v]=some (rcl vun (l.set i { x with uses:=v })):=qdp (o:=3) E_un.len hx (Nat.le_of_ble_eq_true rfl) (by simp only[List.all,go_sem,Bool.and_self]) rfl
 cases o with
 |true=>exact⟨_,by rw[zc (show pr.fns 190=some c190 from rfl) (by simp)];simp only[go_sem,seval,c190,zg,ld,w,hb]<;>rfl,qlu E_un (o:=3) hx (by decide) hy true⟩
 |false=>exact⟨_,by rw[zc (show pr.fns 190=some c190 from rfl) (by simp)];simp only[go_sem,seval,c190,zg,ld,w,st]<;>rfl,qah⟩
end Go.Z
namespace Go.Z
open Go Go.Abs Go.W
def stO {α:Type}(l:Option (List α))(i:Int)(x:α):Option (Option (List α)):=
 if(l.getD []).length≤1073741824∧0≤i∧i<(l.getD []).length then some (some ((l.getD []).set i.toNat x))else none
theorem qve {α:Type}{l:Option (List α)}{i:Int}{x:α}{r}(h:stO l i x=some r):∃(n:Nat),i=(n:Int)∧(l.getD []).length≤1073741824∧n<(l.getD []).length∧r=some ((l.getD []).set n x):=by
 unfold stO at h
 split at h
 ·rename_i hc
  cases h
  exact⟨i.toNat,(Int.toNat_of_nonneg hc.2.1).symm,hc.1,by omega,rfl⟩
 ·cases h
section
variable {α:Type}{f:α→qa}{sz:Nat}{h:zb}
theorem q7k {l:List α}:cellsOf ((l.map f).flatMap qa.flat)=rcl f l:=rfl
theorem qvz (E:Enc f sz){n0 r b t:Nat}{l:Option (List α)}(hl:(l.getD []).length≤1073741824)(hb:b≤4096){h':zb}(hh:newBox n0 h r (.cells (rcl f (l.getD [])))=some h'):qrg n0 r sz b h (some t) (some (.list false sz [])) (some (sl sz f l))=some ⟨.ms (n0+r) 0 (l.getD []).length,false,some t,h'⟩:=by
 have hs:qaa sz (sl sz f l)=some ((l.getD []).map f):=jay
 have h1:0<sz:=by have:=E.big;omega
 simp only[qrg]
 rw[hs]
 simp only[Option.isSome_some,Nat.beq_refl,Bool.and_self,cT,List.length_map,Nat.ble_eq_true_of_le hl,Nat.ble_eq_true_of_le hb,Nat.blt_eq.mpr h1,q7k,hh]
theorem q2w (E:Enc f sz){l:List α}{i:Nat}{y:α}(hi:i<l.length):yu (rcl f l) (i*sz) (f y).flat=some (rcl f (l.set i y)):=by
 have hx:l[i]?=some l[i]:=List.getElem?_eq_getElem hi
 have hl:=E.len l[i]
 have hly:=E.len y
 have:=qdp (o:=0) (us:=(f y).flat) (y:=y) E.len hx (by omega) (E.sc y) (by rw[List.take_zero,List.nil_append,List.drop_eq_nil_of_le (by omega),List.append_nil])
 rw[Nat.add_zero]at this
 exact this
end
def f206 (a0:qc)(a1:Int)(x:qj):Option qc:=jy (stO a0.lots a1 x) fun v=>some { a0 with lots:=v }
theorem q2z {a0:qc}{a1:Int}{x:qj}{r}(h:f206 a0 a1 x=some r):j6 pr (X pr) 206 [.agg [Iv a0.day,sl 5 zg a0.lots,sl 4 za a0.products,sl 8 vun a0.units],Iv a1,.agg [.str x.name,.str x.kind,Iv x.count,Iv x.left,.bool x.held]]=some (.agg [Iv r.day,sl 5 zg r.lots,sl 4 za r.products,sl 8 vun r.units],false):=by
 obtain⟨v,hv,h⟩:=jw h
 cases h
 obtain⟨n,rfl,hl,hi,rfl⟩:=qve hv
 have ap:qrg 2 0 5 56 [.cells [(Iv a0.day,false),(sl 5 zg a0.lots,false),(sl 4 za a0.products,false),(sl 8 vun a0.units,false)],.cells [(Iv 0,false),(.list true 0 [],false),(.list true 0 [],false),(.list true 0 [],false)],.hole] (some 7) (some (.list false 5 [])) (some (sl 5 zg a0.lots))=some ⟨.ms 2 0 (a0.lots.getD []).length,false,some 7,[.cells [(Iv a0.day,false),(sl 5 zg a0.lots,false),(sl 4 za a0.products,false),(sl 8 vun a0.units,false)],.cells [(Iv 0,false),(.list true 0 [],false),(.list true 0 [],false),(.list true 0 [],false)],.cells (rcl zg (a0.lots.getD []))]⟩:=by yf qvz E_lot<;>first|exact hl|rfl|decide
 have st:yu (rcl zg (a0.lots.getD [])) (n*5) [.str x.name,.str x.kind,Iv x.count,Iv x.left,.bool x.held]=some (rcl zg ((a0.lots.getD []).set n x)):=q2w (y:=x) E_lot hi
 have this:zj pr (X pr) 206 [.agg [Iv a0.day,sl 5 zg a0.lots,sl 4 za a0.products,sl 8 vun a0.units],Iv (n:Int),.agg [.str x.name,.str x.kind,Iv x.count,Iv x.left,.bool x.held]] []=some (.agg [Iv a0.day,.ms 2 0 (a0.lots.getD []).length,sl 4 za a0.products,sl 8 vun a0.units],false,[.cells [(Iv a0.day,false),(.ms 2 0 (a0.lots.getD []).length,false),(sl 4 za a0.products,false),(sl 8 vun a0.units,false)],.cells [(Iv a0.day,false),(.ms 2 0 (a0.lots.getD []).length,false),(sl 4 za a0.products,false),(sl 8 vun a0.units,false)],.cells (rcl zg ((a0.lots.getD []).set n x))]):=by
  rw[zc (show pr.fns 206=some c206 from rfl) (by simp)]
  simp only[go_sem,seval,c206,ap,qet hi,st]<;>rfl
 have fz:qbd [.cells [(Iv a0.day,false),(.ms 2 0 (a0.lots.getD []).length,false),(sl 4 za a0.products,false),(sl 8 vun a0.units,false)],.cells [(Iv a0.day,false),(.ms 2 0 (a0.lots.getD []).length,false),(sl 4 za a0.products,false),(sl 8 vun a0.units,false)],.cells (rcl zg ((a0.lots.getD []).set n x))] (.ms 2 0 (a0.lots.getD []).length)=some (sl 5 zg (some ((a0.lots.getD []).set n x))):=by
  have:=qew E_lot (l:=(a0.lots.getD []).set n x) (by rw[List.length_set];omega) (cs:=rcl zg ((a0.lots.getD []).set n x)) qah
  rw[List.length_set]at this
  exact this
 refine qbj rfl this (v':=.agg [Iv a0.day,sl 5 zg (some ((a0.lots.getD []).set n x)),sl 4 za a0.products,sl 8 vun a0.units]) ?_ (by first|rfl|simp only[go_sem,seval])
 rw[qvf]
 simp only[go_sem,seval,fz]<;>rfl
def f205 (a0:qc)(a1:Int)(x:qk):Option qc:=jy (stO a0.products a1 x) fun v=>some { a0 with products:=v }
theorem q3e {a0:qc}{a1:Int}{x:qk}{r}(h:f205 a0 a1 x=some r):j6 pr (X pr) 205 [.agg [Iv a0.day,sl 5 zg a0.lots,sl 4 za a0.products,sl 8 vun a0.units],Iv a1,.agg [.str x.name,sl 2 vsi x.dn,sl 3 zp x.dt,sl 2 qbi x.docs]]=some (.agg [Iv r.day,sl 5 zg r.lots,sl 4 za r.products,sl 8 vun r.units],false):=by
 obtain⟨v,hv,h⟩:=jw h
 cases h
 obtain⟨n,rfl,hl,hi,rfl⟩:=qve hv
 have ap:qrg 2 0 4 88 [.cells [(Iv a0.day,false),(sl 5 zg a0.lots,false),(sl 4 za a0.products,false),(sl 8 vun a0.units,false)],.cells [(Iv 0,false),(.list true 0 [],false),(.list true 0 [],false),(.list true 0 [],false)],.hole] (some 7) (some (.list false 4 [])) (some (sl 4 za a0.products))=some ⟨.ms 2 0 (a0.products.getD []).length,false,some 7,[.cells [(Iv a0.day,false),(sl 5 zg a0.lots,false),(sl 4 za a0.products,false),(sl 8 vun a0.units,false)],.cells [(Iv 0,false),(.list true 0 [],false),(.list true 0 [],false),(.list true 0 [],false)],.cells (rcl za (a0.products.getD []))]⟩:=by yf qvz E_prod<;>first|exact hl|rfl|decide
 have st:yu (rcl za (a0.products.getD [])) (n*4) [.str x.name,sl 2 vsi x.dn,sl 3 zp x.dt,sl 2 qbi x.docs]=some (rcl za ((a0.products.getD []).set n x)):=q2w (y:=x) E_prod hi
 have this:zj pr (X pr) 205 [.agg [Iv a0.day,sl 5 zg a0.lots,sl 4 za a0.products,sl 8 vun a0.units],Iv (n:Int),.agg [.str x.name,sl 2 vsi x.dn,sl 3 zp x.dt,sl 2 qbi x.docs]] []=some (.agg [Iv a0.day,sl 5 zg a0.lots,.ms 2 0 (a0.products.getD []).length,sl 8 vun a0.units],false,[.cells [(Iv a0.day,false),(sl 5 zg a0.lots,false),(.ms 2 0 (a0.products.getD []).length,false),(sl 8 vun a0.units,false)],.cells [(Iv a0.day,false),(sl 5 zg a0.lots,false),(.ms 2 0 (a0.products.getD []).length,false),(sl 8 vun a0.units,false)],.cells (rcl za ((a0.products.getD []).set n x))]):=by
  rw[zc (show pr.fns 205=some c205 from rfl) (by simp)]
  simp only[go_sem,seval,c205,ap,qet hi,st]<;>rfl
 have fz:qbd [.cells [(Iv a0.day,false),(sl 5 zg a0.lots,false),(.ms 2 0 (a0.products.getD []).length,false),(sl 8 vun a0.units,false)],.cells [(Iv a0.day,false),(sl 5 zg a0.lots,false),(.ms 2 0 (a0.products.getD []).length,false),(sl 8 vun a0.units,false)],.cells (rcl za ((a0.products.getD []).set n x))] (.ms 2 0 (a0.products.getD []).length)=some (sl 4 za (some ((a0.products.getD []).set n x))):=by
  have:=qew E_prod (l:=(a0.products.getD []).set n x) (by rw[List.length_set];omega) (cs:=rcl za ((a0.products.getD []).set n x)) qah
  rw[List.length_set]at this
  exact this
 refine qbj rfl this (v':=.agg [Iv a0.day,sl 5 zg a0.lots,sl 4 za (some ((a0.products.getD []).set n x)),sl 8 vun a0.units]) ?_ (by first|rfl|simp only[go_sem,seval])
 rw[qvf]
 simp only[go_sem,seval,fz]<;>rfl
def f209 (a0:qc)(a1:Int)(x:qe):Option qc:=jy (stO a0.units a1 x) fun v=>some { a0 with units:=v }
theorem qs2 {a0:qc}{a1:Int}{x:qe}{r}(h:f209 a0 a1 x=some r):j6 pr (X pr) 209 [.agg [Iv a0.day,sl 5 zg a0.lots,sl 4 za a0.products,sl 8 vun a0.units],Iv a1,.agg [.str x.name,.str x.product,Iv x.version,sl 2 vsi x.uses,sl 3 zp x.results,.str x.partner,.bool x.shipped,Iv x.complaints]]=some (.agg [Iv r.day,sl 5 zg r.lots,sl 4 za r.products,sl 8 vun r.units],false):=by
 obtain⟨v,hv,h⟩:=jw h
 cases h
 obtain⟨n,rfl,hl,hi,rfl⟩:=qve hv
 have ap:qrg 2 0 8 120 [.cells [(Iv a0.day,false),(sl 5 zg a0.lots,false),(sl 4 za a0.products,false),(sl 8 vun a0.units,false)],.cells [(Iv 0,false),(.list true 0 [],false),(.list true 0 [],false),(.list true 0 [],false)],.hole] (some 7) (some (.list false 8 [])) (some (sl 8 vun a0.units))=some ⟨.ms 2 0 (a0.units.getD []).length,false,some 7,[.cells [(Iv a0.day,false),(sl 5 zg a0.lots,false),(sl 4 za a0.products,false),(sl 8 vun a0.units,false)],.cells [(Iv 0,false),(.list true 0 [],false),(.list true 0 [],false),(.list true 0 [],false)],.cells (rcl vun (a0.units.getD []))]⟩:=by yf qvz E_un<;>first|exact hl|rfl|decide
 have st:yu (rcl vun (a0.units.getD [])) (n*8) [.str x.name,.str x.product,Iv x.version,sl 2 vsi x.uses,sl 3 zp x.results,.str x.partner,.bool x.shipped,Iv x.complaints]=some (rcl vun ((a0.units.getD []).set n x)):=q2w (y:=x) E_un hi
 have this:zj pr (X pr) 209 [.agg [Iv a0.day,sl 5 zg a0.lots,sl 4 za a0.products,sl 8 vun a0.units],Iv (n:Int),.agg [.str x.name,.str x.product,Iv x.version,sl 2 vsi x.uses,sl 3 zp x.results,.str x.partner,.bool x.shipped,Iv x.complaints]] []=some (.agg [Iv a0.day,sl 5 zg a0.lots,sl 4 za a0.products,.ms 2 0 (a0.units.getD []).length],false,[.cells [(Iv a0.day,false),(sl 5 zg a0.lots,false),(sl 4 za a0.products,false),(.ms 2 0 (a0.units.getD []).length,false)],.cells [(Iv a0.day,false),(sl 5 zg a0.lots,false),(sl 4 za a0.products,false),(.ms 2 0 (a0.units.getD []).length,false)],.cells (rcl vun ((a0.units.getD []).set n x))]):=by
  rw[zc (show pr.fns 209=some c209 from rfl) (by simp)]
  simp only[go_sem,seval,c209,ap,qet hi,st]<;>rfl
 have fz:qbd [.cells [(Iv a0.day,false),(sl 5 zg a0.lots,false),(sl 4 za a0.products,false),(.ms 2 0 (a0.units.getD []).length,false)],.cells [(Iv a0.day,false),(sl 5 zg a0.lots,false),(sl 4 za a0.products,false),(.ms 2 0 (a0.units.getD []).length,false)],.cells (rcl vun ((a0.units.getD []).set n x))] (.ms 2 0 (a0.units.getD []).length)=some (sl 8 vun (some ((a0.units.getD []).set n x))):=by
  have:=qew E_un (l:=(a0.units.getD []).set n x) (by rw[List.length_set];omega) (cs:=rcl vun ((a0.units.getD []).set n x)) qah
  rw[List.length_set]at this
  exact this
 refine qbj rfl this (v':=.agg [Iv a0.day,sl 5 zg a0.lots,sl 4 za a0.products,sl 8 vun (some ((a0.units.getD []).set n x))]) ?_ (by first|rfl|simp only[go_sem,seval])
 rw[qvf]
 simp only[go_sem,seval,fz]<;>rfl
end Go.Z
namespace Go.Z
open Go Go.Abs Go.W
def qmv (a0:Option (List qm))(a1:qm)(s0:(Option (List qm))×Bool×Int×Bool):Option (((Option (List qm))×Bool×Int×Bool)⊕(((Option (List qm))×Bool×Bool×Int))):=
 cond (decide (s0.2.2.1<((a0.getD []).length:Int)))
  (jy (zz (a0.getD []) s0.2.2.1) fun v24=>
  cond (decide (v24.k=a1.k))
   (cond (decide (0<a1.n))
    (cond s0.2.2.2
     (jy (apO s0.1 [a1]) fun v29=>
     some (.inl (v29,true,j8 .i64 (s0.2.2.1+1),true)))
     (cond s0.1.isNone
      (jy (apO s0.1 [a1]) fun v32=>
      some (.inl (v32,true,j8 .i64 (s0.2.2.1+1),true)))
      (none)))
    (some (.inl (s0.1,true,j8 .i64 (s0.2.2.1+1),s0.2.2.2))))
   (cond s0.2.2.2
    (jy (apO s0.1 [v24]) fun v35=>
    some (.inl (v35,s0.2.1,j8 .i64 (s0.2.2.1+1),true)))
    (cond s0.1.isNone
     (jy (apO s0.1 [v24]) fun v38=>
     some (.inl (v38,s0.2.1,j8 .i64 (s0.2.2.1+1),true)))
     (none))))
  (some (.inr (s0.1,s0.2.2.2,s0.2.1,s0.2.2.1)))
def qhb (a0:Option (List qm))(a1:qm)(s0:(Option (List qm))×Bool×Int×Bool):qg:=⟨[(0,sl 2 vsi a0,false),(3,.vptr (.agg [.str a1.k,Iv a1.n]),false),(5,sl 2 vsi s0.1,s0.2.2.2),(6,.bool s0.2.1,false),(7,Iv s0.2.2.1,false)],[]⟩
def qtx (a0:Option (List qm))(a1:qm)(d:((Option (List qm))×Bool×Bool×Int)):qn×qg:=(.exit 0,⟨[(0,sl 2 vsi a0,false),(3,.vptr (.agg [.str a1.k,Iv a1.n]),false),(5,sl 2 vsi d.1,d.2.1),(6,.bool d.2.2.1,false),(7,Iv d.2.2.2,false),(11,.bool false,false)],[]⟩)
theorem jjz (a0:Option (List qm))(a1:qm)(s0:(Option (List qm))×Bool×Int×Bool)(r)(h:qmv a0 a1 s0=some r):y6 pr qii (qhb a0 a1) (qtx a0 a1) s0 r:=by
 unfold qmv at h
 rcases jx h with⟨h23,h⟩|⟨h23,h⟩
 ·obtain⟨v24,h25,h⟩:=jw h
  rcases jx h with⟨h26,h⟩|⟨h26,h⟩
  ·rcases jx h with⟨h27,h⟩|⟨h27,h⟩
   ·rcases jx h with⟨h28,h⟩|⟨h28,h⟩
    ·obtain⟨v29,h30,h⟩:=jw h
     cases h
     exact zq (by simp only[go_sem,seval,qii,qhb,h23,jz h25,h26,h27,h28,qc5 h30]<;>rfl)
    rcases jx h with⟨h31,h⟩|⟨h31,h⟩
    ·obtain⟨v32,h33,h⟩:=jw h
     cases h
     exact zq (by simp only[go_sem,seval,qii,qhb,h23,jz h25,h26,h27,h28,h31,qc4 h33 h31]<;>rfl)
    cases h
   cases h
   exact zq (by simp only[go_sem,seval,qii,qhb,h23,jz h25,h26,h27]<;>rfl)
  rcases jx h with⟨h34,h⟩|⟨h34,h⟩
  ·obtain⟨v35,h36,h⟩:=jw h
   cases h
   exact zq (by simp only[go_sem,seval,qii,qhb,h23,jz h25,h26,h34,qc5 h36]<;>rfl)
  rcases jx h with⟨h37,h⟩|⟨h37,h⟩
  ·obtain⟨v38,h39,h⟩:=jw h
   cases h
   exact zq (by simp only[go_sem,seval,qii,qhb,h23,jz h25,h26,h34,h37,qc4 h39 h37]<;>rfl)
  cases h
 cases h
 exact zd (by simp only[go_sem,seval,qii,qhb,h23,qtx]<;>rfl)
theorem jnt (a0:Option (List qm))(a1:qm){s0:(Option (List qm))×Bool×Int×Bool}{d}(h:itO (qmv a0 a1) s0=some d):X pr (.loop qii) (qhb a0 a1 s0)=some (qtx a0 a1 d):=km (jjz a0 a1) (fun d hh=>by cases hh) h
def f203 (a0:Option (List qm))(a1:qm):Option ((Option (List qm))×Bool):=
 jy (itO (qmv a0 a1) (none,false,0,false)) fun d40=>
 cond d40.2.2.1
  (some (d40.1,d40.2.1))
  (cond (decide (0<a1.n))
   (cond d40.2.1
    (jy (apO d40.1 [a1]) fun v45=>
    some (v45,true))
    (cond d40.1.isNone
     (jy (apO d40.1 [a1]) fun v48=>
     some (v48,true))
     (none)))
   (some (d40.1,d40.2.1)))
theorem zbf {a0:Option (List qm)}{a1:qm}{r}(h:f203 a0 a1=some r):j6 pr (X pr) 203 [sl 2 vsi a0,.agg [.str a1.k,Iv a1.n]]=some (sl 2 vsi r.1,r.2):=by
 unfold f203 at h
 obtain⟨d40,h41,h⟩:=jw h
 have wh41:=jnt a0 a1 h41
 dsimp only[qhb,qtx,qd8]at wh41
 rcases jx h with⟨h42,h⟩|⟨h42,h⟩
 ·obtain rfl:=oi h
  refine ki c203 ?_
  simp only[go_sem,seval,c203,wh41,h42]
  exact⟨_,rfl⟩
 rcases jx h with⟨h43,h⟩|⟨h43,h⟩
 ·rcases jx h with⟨h44,h⟩|⟨h44,h⟩
  ·obtain⟨v45,h46,h⟩:=jw h
   obtain rfl:=oi h
   refine ki c203 ?_
   simp only[go_sem,seval,c203,wh41,h42,h43,h44,qc5 h46]
   exact⟨_,rfl⟩
  rcases jx h with⟨h47,h⟩|⟨h47,h⟩
  ·obtain⟨v48,h49,h⟩:=jw h
   obtain rfl:=oi h
   refine ki c203 ?_
   simp only[go_sem,seval,c203,wh41,h42,h43,h44,h47,qc4 h49 h47]
   exact⟨_,rfl⟩
  cases h
 obtain rfl:=oi h
 refine ki c203 ?_
 simp only[go_sem,seval,c203,wh41,h42,h43]
 exact⟨_,rfl⟩
def qmg (a0:Option (List qi))(a1:qi)(s0:(Option (List qi))×Bool×Int×Bool):Option (((Option (List qi))×Bool×Int×Bool)⊕(((Option (List qi))×Bool×Bool×Int))):=
 cond (decide (s0.2.2.1<((a0.getD []).length:Int)))
  (jy (zz (a0.getD []) s0.2.2.1) fun v22=>
  cond (decide (v22.k=a1.k))
   (cond s0.2.2.2
    (jy (apO s0.1 [a1]) fun v26=>
    some (.inl (v26,true,j8 .i64 (s0.2.2.1+1),true)))
    (cond s0.1.isNone
     (jy (apO s0.1 [a1]) fun v29=>
     some (.inl (v29,true,j8 .i64 (s0.2.2.1+1),true)))
     (none)))
   (cond s0.2.2.2
    (jy (apO s0.1 [v22]) fun v32=>
    some (.inl (v32,s0.2.1,j8 .i64 (s0.2.2.1+1),true)))
    (cond s0.1.isNone
     (jy (apO s0.1 [v22]) fun v35=>
     some (.inl (v35,s0.2.1,j8 .i64 (s0.2.2.1+1),true)))
     (none))))
  (some (.inr (s0.1,s0.2.2.2,s0.2.1,s0.2.2.1)))
def qie (a0:Option (List qi))(a1:qi)(s0:(Option (List qi))×Bool×Int×Bool):qg:=⟨[(0,sl 3 zp a0,false),(3,.vptr (.agg [.str a1.k,Iv a1.a,Iv a1.b]),false),(5,sl 3 zp s0.1,s0.2.2.2),(6,.bool s0.2.1,false),(7,Iv s0.2.2.1,false)],[]⟩
def qtf (a0:Option (List qi))(a1:qi)(d:((Option (List qi))×Bool×Bool×Int)):qn×qg:=(.exit 0,⟨[(0,sl 3 zp a0,false),(3,.vptr (.agg [.str a1.k,Iv a1.a,Iv a1.b]),false),(5,sl 3 zp d.1,d.2.1),(6,.bool d.2.2.1,false),(7,Iv d.2.2.2,false),(11,.bool false,false)],[]⟩)
theorem jmc (a0:Option (List qi))(a1:qi)(s0:(Option (List qi))×Bool×Int×Bool)(r)(h:qmg a0 a1 s0=some r):y6 pr qkf (qie a0 a1) (qtf a0 a1) s0 r:=by
 unfold qmg at h
 rcases jx h with⟨h21,h⟩|⟨h21,h⟩
 ·obtain⟨v22,h23,h⟩:=jw h
  rcases jx h with⟨h24,h⟩|⟨h24,h⟩
  ·rcases jx h with⟨h25,h⟩|⟨h25,h⟩
   ·obtain⟨v26,h27,h⟩:=jw h
    cases h
    exact zq (by simp only[go_sem,seval,qkf,qie,h21,jz h23,h24,h25,qdv h27]<;>rfl)
   rcases jx h with⟨h28,h⟩|⟨h28,h⟩
   ·obtain⟨v29,h30,h⟩:=jw h
    cases h
    exact zq (by simp only[go_sem,seval,qkf,qie,h21,jz h23,h24,h25,h28,qee h30 h28]<;>rfl)
   cases h
  rcases jx h with⟨h31,h⟩|⟨h31,h⟩
  ·obtain⟨v32,h33,h⟩:=jw h
   cases h
   exact zq (by simp only[go_sem,seval,qkf,qie,h21,jz h23,h24,h31,qdv h33]<;>rfl)
  rcases jx h with⟨h34,h⟩|⟨h34,h⟩
  ·obtain⟨v35,h36,h⟩:=jw h
   cases h
   exact zq (by simp only[go_sem,seval,qkf,qie,h21,jz h23,h24,h31,h34,qee h36 h34]<;>rfl)
  cases h
 cases h
 exact zd (by simp only[go_sem,seval,qkf,qie,h21,qtf]<;>rfl)
theorem jn7 (a0:Option (List qi))(a1:qi){s0:(Option (List qi))×Bool×Int×Bool}{d}(h:itO (qmg a0 a1) s0=some d):X pr (.loop qkf) (qie a0 a1 s0)=some (qtf a0 a1 d):=km (jmc a0 a1) (fun d hh=>by cases hh) h
def f204 (a0:Option (List qi))(a1:qi):Option ((Option (List qi))×Bool):=
 jy (itO (qmg a0 a1) (none,false,0,false)) fun d37=>
 cond d37.2.2.1
  (some (d37.1,d37.2.1))
  (cond d37.2.1
   (jy (apO d37.1 [a1]) fun v41=>
   some (v41,true))
   (cond d37.1.isNone
    (jy (apO d37.1 [a1]) fun v44=>
    some (v44,true))
    (none)))
theorem j50 {a0:Option (List qi)}{a1:qi}{r}(h:f204 a0 a1=some r):j6 pr (X pr) 204 [sl 3 zp a0,.agg [.str a1.k,Iv a1.a,Iv a1.b]]=some (sl 3 zp r.1,r.2):=by
 unfold f204 at h
 obtain⟨d37,h38,h⟩:=jw h
 have wh38:=jn7 a0 a1 h38
 dsimp only[qie,qtf,qd8]at wh38
 rcases jx h with⟨h39,h⟩|⟨h39,h⟩
 ·obtain rfl:=oi h
  refine ki c204 ?_
  simp only[go_sem,seval,c204,wh38,h39]
  exact⟨_,rfl⟩
 rcases jx h with⟨h40,h⟩|⟨h40,h⟩
 ·obtain⟨v41,h42,h⟩:=jw h
  obtain rfl:=oi h
  refine ki c204 ?_
  simp only[go_sem,seval,c204,wh38,h39,h40,qdv h42]
  exact⟨_,rfl⟩
 rcases jx h with⟨h43,h⟩|⟨h43,h⟩
 ·obtain⟨v44,h45,h⟩:=jw h
  obtain rfl:=oi h
  refine ki c204 ?_
  simp only[go_sem,seval,c204,wh38,h39,h40,h43,qee h45 h43]
  exact⟨_,rfl⟩
 cases h
def qmd (a0:Option (List qm))(a1:List UInt8)(a2:Int)(s0:(Option (List qm))×Bool×Int×Bool):Option (((Option (List qm))×Bool×Int×Bool)⊕(((Option (List qm))×Bool×Bool×Int))):=
 cond (decide (s0.2.2.1<((a0.getD []).length:Int)))
  (jy (zz (a0.getD []) s0.2.2.1) fun v22=>
  cond (decide (v22.k=a1))
   (cond s0.2.2.2
    (jy (apO s0.1 [⟨v22.k,j8 .i64 (v22.n+a2)⟩]) fun v26=>
    some (.inl (v26,true,j8 .i64 (s0.2.2.1+1),true)))
    (cond s0.1.isNone
     (jy (apO s0.1 [⟨v22.k,j8 .i64 (v22.n+a2)⟩]) fun v29=>
     some (.inl (v29,true,j8 .i64 (s0.2.2.1+1),true)))
     (none)))
   (cond s0.2.2.2
    (jy (apO s0.1 [v22]) fun v32=>
    some (.inl (v32,s0.2.1,j8 .i64 (s0.2.2.1+1),true)))
    (cond s0.1.isNone
     (jy (apO s0.1 [v22]) fun v35=>
     some (.inl (v35,s0.2.1,j8 .i64 (s0.2.2.1+1),true)))
     (none))))
  (some (.inr (s0.1,s0.2.2.2,s0.2.1,s0.2.2.1)))
def qcr (a0:Option (List qm))(a1:List UInt8)(a2:Int)(s0:(Option (List qm))×Bool×Int×Bool):qg:=⟨[(0,sl 2 vsi a0,false),(1,.str a1,false),(2,Iv a2,false),(7,sl 2 vsi s0.1,s0.2.2.2),(8,.bool s0.2.1,false),(9,Iv s0.2.2.1,false)],[]⟩
def qup (a0:Option (List qm))(a1:List UInt8)(a2:Int)(d:((Option (List qm))×Bool×Bool×Int)):qn×qg:=(.exit 0,⟨[(0,sl 2 vsi a0,false),(1,.str a1,false),(2,Iv a2,false),(7,sl 2 vsi d.1,d.2.1),(8,.bool d.2.2.1,false),(9,Iv d.2.2.2,false),(14,.bool false,false)],[]⟩)
theorem jmx (a0:Option (List qm))(a1:List UInt8)(a2:Int)(s0:(Option (List qm))×Bool×Int×Bool)(r)(h:qmd a0 a1 a2 s0=some r):y6 pr qkn (qcr a0 a1 a2) (qup a0 a1 a2) s0 r:=by
 unfold qmd at h
 rcases jx h with⟨h21,h⟩|⟨h21,h⟩
 ·obtain⟨v22,h23,h⟩:=jw h
  rcases jx h with⟨h24,h⟩|⟨h24,h⟩
  ·rcases jx h with⟨h25,h⟩|⟨h25,h⟩
   ·obtain⟨v26,h27,h⟩:=jw h
    cases h
    exact qoz (by simp only[go_sem,seval,qkn,qcr,h21,jz h23,h24,h25,qc5 h27];exact⟨_,rfl⟩) rfl (by first|simp only[go_sem,seval,qcr]|rfl) (by first|simp only[go_sem,seval,qcr]|rfl)
   rcases jx h with⟨h28,h⟩|⟨h28,h⟩
   ·obtain⟨v29,h30,h⟩:=jw h
    cases h
    exact qoz (by simp only[go_sem,seval,qkn,qcr,h21,jz h23,h24,h25,h28,qc4 h30 h28];exact⟨_,rfl⟩) rfl (by first|simp only[go_sem,seval,qcr]|rfl) (by first|simp only[go_sem,seval,qcr]|rfl)
   cases h
  rcases jx h with⟨h31,h⟩|⟨h31,h⟩
  ·obtain⟨v32,h33,h⟩:=jw h
   cases h
   exact qoz (by simp only[go_sem,seval,qkn,qcr,h21,jz h23,h24,h31,qc5 h33];exact⟨_,rfl⟩) rfl (by first|simp only[go_sem,seval,qcr]|rfl) (by first|simp only[go_sem,seval,qcr]|rfl)
  rcases jx h with⟨h34,h⟩|⟨h34,h⟩
  ·obtain⟨v35,h36,h⟩:=jw h
   cases h
   exact qoz (by simp only[go_sem,seval,qkn,qcr,h21,jz h23,h24,h31,h34,qc4 h36 h34];exact⟨_,rfl⟩) rfl (by first|simp only[go_sem,seval,qcr]|rfl) (by first|simp only[go_sem,seval,qcr]|rfl)
  cases h
 cases h
 exact zd (by simp only[go_sem,seval,qkn,qcr,h21,qup]<;>rfl)
theorem jmq (a0:Option (List qm))(a1:List UInt8)(a2:Int){s0:(Option (List qm))×Bool×Int×Bool}{d}(h:itO (qmd a0 a1 a2) s0=some d):X pr (.loop qkn) (qcr a0 a1 a2 s0)=some (qup a0 a1 a2 d):=km (jmx a0 a1 a2) (fun d hh=>by cases hh) h
def f252 (a0:Option (List qm))(a1:List UInt8)(a2:Int):Option ((Option (List qm))×Bool):=
 jy (itO (qmd a0 a1 a2) (none,false,0,false)) fun d37=>
 cond d37.2.2.1
  (some (d37.1,d37.2.1))
  (cond d37.2.1
   (jy (apO d37.1 [⟨a1,a2⟩]) fun v41=>
   some (v41,true))
   (cond d37.1.isNone
    (jy (apO d37.1 [⟨a1,a2⟩]) fun v44=>
    some (v44,true))
    (none)))
theorem j31 {a0:Option (List qm)}{a1:List UInt8}{a2:Int}{r}(h:f252 a0 a1 a2=some r):j6 pr (X pr) 252 [sl 2 vsi a0,.str a1,Iv a2]=some (sl 2 vsi r.1,r.2):=by
 unfold f252 at h
 obtain⟨d37,h38,h⟩:=jw h
 have wh38:=jmq a0 a1 a2 h38
 dsimp only[qcr,qup,qd8]at wh38
 rcases jx h with⟨h39,h⟩|⟨h39,h⟩
 ·obtain rfl:=oi h
  refine ki c252 ?_
  simp only[go_sem,seval,c252,wh38,h39]
  exact⟨_,rfl⟩
 rcases jx h with⟨h40,h⟩|⟨h40,h⟩
 ·obtain⟨v41,h42,h⟩:=jw h
  obtain rfl:=oi h
  refine ki c252 ?_
  simp only[go_sem,seval,c252,wh38,h39,h40,qc5 h42]
  exact⟨_,rfl⟩
 rcases jx h with⟨h43,h⟩|⟨h43,h⟩
 ·obtain⟨v44,h45,h⟩:=jw h
  obtain rfl:=oi h
  refine ki c252 ?_
  simp only[go_sem,seval,c252,wh38,h39,h40,h43,qc4 h45 h43]
  exact⟨_,rfl⟩
 cases h
def f124 (a0:qc)(a1:ql):Option (qc×Int):=
 jy (zz (a1.names.getD []) 0) fun v1=>
 cond (decide (a1.kind=([108,111,116]:List UInt8)))
  (jy (f28 a0 v1) fun v4=>
  cond (decide (0≤v4))
   (some (a0,9))
   (jy (zz (a1.values.getD []) 1) fun v7=>
   jy (f59 v7 1 10000) fun v9=>
   cond v9
    (some (a0,3))
    (cond (decide (64≤((a0.lots.getD []).length:Int)))
     (some (a0,5))
     (jy (apO (some []) (a0.lots.getD [])) fun v13=>
     jy (zz (a1.names.getD []) 1) fun v15=>
     jy (apO v13 [⟨v1,v15,v7,v7,false⟩]) fun v17=>
     some (⟨a0.day,v17,a0.products,a0.units⟩,0)))))
  (cond (decide (a1.kind=([112,114,111,100,117,99,116]:List UInt8)))
   (jy (f144 a0 v1) fun v20=>
   cond (decide (0≤v20))
    (some (a0,9))
    (cond (decide (16≤((a0.products.getD []).length:Int)))
     (some (a0,5))
     (jy (apO (some []) (a0.products.getD [])) fun v24=>
     jy (apO v24 [⟨v1,none,none,none⟩]) fun v26=>
     some (⟨a0.day,a0.lots,v26,a0.units⟩,0))))
   (jy (zz (a1.names.getD []) 1) fun v28=>
   jy (f144 a0 v28) fun v30=>
   cond (decide (v30<0))
    (some (a0,10))
    (jy (f27 a0 v1) fun v33=>
    cond (decide (0≤v33))
     (some (a0,9))
     (jy (zz (a0.products.getD []) v30) fun v36=>
     cond (decide (((v36.docs.getD []).length:Int)=0))
      (some (a0,32))
      (cond (decide (256≤((a0.units.getD []).length:Int)))
       (some (a0,5))
       (jy (apO (some []) (a0.units.getD [])) fun v40=>
       jy (apO v40 [⟨v1,v28,((v36.docs.getD []).length:Int),none,none,[],false,0⟩]) fun v42=>
       some (⟨a0.day,a0.lots,a0.products,v42⟩,0)))))))
theorem jeg {a0:qc}{a1:ql}{r}(h:f124 a0 a1=some r):j6 pr (X pr) 124 [.agg [Iv a0.day,sl 5 zg a0.lots,sl 4 za a0.products,sl 8 vun a0.units],.agg [Iv a1.number,.str a1.kind,sl 1 yc a1.names,sl 1 yb a1.values,.str a1.text]]=some (.tup [.agg [Iv r.1.day,sl 5 zg r.1.lots,sl 4 za r.1.products,sl 8 vun r.1.units],Iv r.2],false):=by
 unfold f124 at h
 obtain⟨v1,h2,h⟩:=jw h
 rcases jx h with⟨h3,h⟩|⟨h3,h⟩
 ·obtain⟨v4,h5,h⟩:=jw h
  have wh5:=W28 h5
  rcases jx h with⟨h6,h⟩|⟨h6,h⟩
  ·obtain rfl:=oi h
   refine zk c124 ?_
   simp only[go_sem,seval,c124,jz h2,h3,wh5,h6]
   exact⟨_,rfl⟩
  obtain⟨v7,h8,h⟩:=jw h
  obtain⟨v9,h10,h⟩:=jw h
  rcases jx h with⟨h11,h⟩|⟨h11,h⟩
  ·obtain rfl:=oi h
   refine zk c124 ?_
   simp only[go_sem,seval,c124,jz h2,h3,wh5,h6,jz h8,W59 h10,h11]
   exact⟨_,rfl⟩
  rcases jx h with⟨h12,h⟩|⟨h12,h⟩
  ·obtain rfl:=oi h
   refine zk c124 ?_
   simp only[go_sem,seval,c124,jz h2,h3,wh5,h6,jz h8,W59 h10,h11,h12]
   exact⟨_,rfl⟩
  obtain⟨v13,h14,h⟩:=jw h
  obtain⟨v15,h16,h⟩:=jw h
  obtain⟨v17,h18,h⟩:=jw h
  obtain rfl:=oi h
  refine zk c124 ?_
  simp only[go_sem,seval,c124,jz h2,h3,wh5,h6,jz h8,W59 h10,h11,h12,qa9 h14,jz h16,qih h18]
  exact⟨_,rfl⟩
 rcases jx h with⟨h19,h⟩|⟨h19,h⟩
 ·obtain⟨v20,h21,h⟩:=jw h
  have wh21:=q2e h21
  rcases jx h with⟨h22,h⟩|⟨h22,h⟩
  ·obtain rfl:=oi h
   refine zk c124 ?_
   simp only[go_sem,seval,c124,jz h2,h3,h19,wh21,h22]
   exact⟨_,rfl⟩
  rcases jx h with⟨h23,h⟩|⟨h23,h⟩
  ·obtain rfl:=oi h
   refine zk c124 ?_
   simp only[go_sem,seval,c124,jz h2,h3,h19,wh21,h22,h23]
   exact⟨_,rfl⟩
  obtain⟨v24,h25,h⟩:=jw h
  obtain⟨v26,h27,h⟩:=jw h
  obtain rfl:=oi h
  refine zk c124 ?_
  simp only[go_sem,seval,c124,jz h2,h3,h19,wh21,h22,h23,qa9 h25,(show ∀(b t:Nat) (hq:zb) (bb:Bool),appR 4 b hq (some t) (some (sl 4 za v24)) (some (.list bb 4 [.agg [.str v1,.list true 0 [],.list true 0 [],.list true 0 []]]))=ifR (decide (b≤4096)) (some ⟨sl 4 za v26,true,(some t),hq⟩)from fun _ _ _ _=>qob h27)]
  exact⟨_,rfl⟩
 obtain⟨v28,h29,h⟩:=jw h
 obtain⟨v30,h31,h⟩:=jw h
 have wh31:=q2e h31
 rcases jx h with⟨h32,h⟩|⟨h32,h⟩
 ·obtain rfl:=oi h
  refine zk c124 ?_
  simp only[go_sem,seval,c124,jz h2,h3,h19,jz h29,wh31,h32]
  exact⟨_,rfl⟩
 obtain⟨v33,h34,h⟩:=jw h
 have wh34:=W27 h34
 rcases jx h with⟨h35,h⟩|⟨h35,h⟩
 ·obtain rfl:=oi h
  refine zk c124 ?_
  simp only[go_sem,seval,c124,jz h2,h3,h19,jz h29,wh31,h32,wh34,h35]
  exact⟨_,rfl⟩
 obtain⟨v36,h37,h⟩:=jw h
 rcases jx h with⟨h38,h⟩|⟨h38,h⟩
 ·obtain rfl:=oi h
  refine zk c124 ?_
  simp only[go_sem,seval,c124,jz h2,h3,h19,jz h29,wh31,h32,wh34,h35,jz h37,h38]
  exact⟨_,rfl⟩
 rcases jx h with⟨h39,h⟩|⟨h39,h⟩
 ·obtain rfl:=oi h
  refine zk c124 ?_
  simp only[go_sem,seval,c124,jz h2,h3,h19,jz h29,wh31,h32,wh34,h35,jz h37,h38,h39]
  exact⟨_,rfl⟩
 obtain⟨v40,h41,h⟩:=jw h
 obtain⟨v42,h43,h⟩:=jw h
 obtain rfl:=oi h
 refine zk c124 ?_
 simp only[go_sem,seval,c124,jz h2,h3,h19,jz h29,wh31,h32,wh34,h35,jz h37,h38,h39,qa9 h41,(show ∀(b t:Nat) (hq:zb) (bb:Bool),appR 8 b hq (some t) (some (sl 8 vun v40)) (some (.list bb 8 [.agg [.str v1,.str v28,Lv v36.docs,.list true 0 [],.list true 0 [],.str [],.bool false,Iv 0]]))=ifR (decide (b≤4096)) (some ⟨sl 8 vun v42,true,(some t),hq⟩)from fun _ _ _ _=>qss h43)]
 exact⟨_,rfl⟩
end Go.Z
end
