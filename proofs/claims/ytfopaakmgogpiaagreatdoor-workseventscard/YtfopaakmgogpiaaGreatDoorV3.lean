/- Chapter 10. -/
import Derived.Test.YtfopaakmgogpiaaGreatDoorV0
import Derived.Test.YtfopaakmgogpiaaGreatDoorW8
import Derived.Test.YtfopaakmgogpiaaGreatDoorW3
import Derived.Test.YtfopaakmgogpiaaGreatDoorAbsL
import Derived.Test.YtfopaakmgogpiaaGreatDoorCA
set_option linter.unusedVariables false
set_option linter.unusedSimpArgs false
set_option maxRecDepth 100000
set_option maxHeartbeats 4000000
noncomputable section
open Option renaming some→I,none→E4
open Bool renaming false→Ef,true→En,and_self→E3
open List renaming length_set→E0,length_map→E7,all→E9
open Nat renaming le_of_ble_eq_true→E1,ble_eq_true_of_le→E6
namespace Go.Z
open Go Go.Abs Go.W
theorem Ej {α:Type}{f:α→qa}{sz:Nat}(E:oF f sz){l:List α}{i o:Nat}{x y:α}{u:qa}(hx:l[i]?=I x)(ho:o<sz)(hy:(f y).flat=(f x).flat.set o u)(w:Bool):((bB f l).set (i*sz+o) (u,w)).map (·.1)=yw f (l.set i y):=by
 have h:=congrArg (List.map (·.1)) (q5l E.len hx ho hy)
 rw[List.map_set]at h ⊢
 rw[show(bB f (l.set i y)).map (·.1)=yw f (l.set i y)from kx]at h
 exact h
theorem H2 {α:Type}{f:α→qa}{sz:Nat}(E:oF f sz){l:List α}{i o:Nat}{x:α}(hx:l[i]?=I x)(ho:o<sz):i*sz+o<(bB f l).length:=by
 have h:=(DR (n:=1) (o:=o) E.len hx (by omega)).2
 simp only[bB,cellsOf,E7]
 omega
def Hf (c:Int)(nm k:List UInt8)(x:qi):Option qi:=cond (decide (c=0))
 (jw (f171 x.dn nm) fun v=>I { x with dn:=v.1 })
 (jw (f173 x.dn ⟨k,c⟩ nm) fun v=>I { x with dn:=v.1 })
theorem zbu {l:List qi}{i:Nat}{x y:qi}{c:Int}{nm k:List UInt8}(hx:l[i]?=I x)(h:Hf c nm k x=I y):
  ∃cs,zf pr (X pr) 170 [.ptr 0 (i*4+1),.ah (Iv c),.ah (.fn (.func 167) [] [.ah (.str nm)]),.ah (.str k)] [.cells (bB zr l)]=I (.aB [],Ef,[.cells cs])∧cs.map (·.1)=yw zr (l.set i y):=by
 unfold Hf at h
 have ld:y8 (bB zr l) (i*4+1) 1=I [sl 2 aS x.dn]:=uF (o:=1) cm.len hx (by decide)
 have hb:=H2 cm (o:=1) hx (by decide)
 rcases jz h with⟨h1,h⟩|⟨h1,h⟩
 ·obtain⟨v,hv,h⟩:=jx h
  cases h
  have w:=zda [.cells (bB zr l)] hv
  rcases v with⟨v,o⟩
  have hy:(zr { x with dn:=v }).flat=(zr x).flat.set 1 (sl 2 aS v):=rfl
  have st:yh (bB zr l) (i*4+1) [sl 2 aS v]=I (bB zr (l.set i { x with dn:=v })):=l0 (o:=1) cm.len hx (E1 rfl) (by simp only[E9,go_sem,E3]) rfl
  cases o with
  |true=>exact⟨_,by rw[zd (show pr.bj 170=I iu from rfl) (by simp)];simp only[go_sem,seval,iu,h1,ld,w,hb]<;>rfl,Ej cm hx (by decide) hy En⟩
  |false=>exact⟨_,by rw[zd (show pr.bj 170=I iu from rfl) (by simp)];simp only[go_sem,seval,iu,h1,ld,w,st]<;>rfl,kx⟩
 ·obtain⟨v,hv,h⟩:=jx h
  cases h
  have w:jy pr (X pr) 173 [sl 2 aS x.dn,.agg [.str k,Iv c],.fn (.func 167) [] [.ah (.str nm)]]=I (sl 2 aS v.1,v.2):=zbw hv
  rcases v with⟨v,o⟩
  have hy:(zr { x with dn:=v }).flat=(zr x).flat.set 1 (sl 2 aS v):=rfl
  have st:yh (bB zr l) (i*4+1) [sl 2 aS v]=I (bB zr (l.set i { x with dn:=v })):=l0 (o:=1) cm.len hx (E1 rfl) (by simp only[E9,go_sem,E3]) rfl
  cases o with
  |true=>exact⟨_,by rw[zd (show pr.bj 170=I iu from rfl) (by simp)];simp only[go_sem,seval,iu,h1,ld,w,hb]<;>rfl,Ej cm hx (by decide) hy En⟩
  |false=>exact⟨_,by rw[zd (show pr.bj 170=I iu from rfl) (by simp)];simp only[go_sem,seval,iu,h1,ld,w,st]<;>rfl,kx⟩
def Vh (l:Option (List qi))(i:Int)(c:Int)(nm k:List UInt8):Option (Option (List qi)):=fN l i (Hf c nm k)
theorem jfb {l:Option (List qi)}{i:Int}{c:Int}{nm k:List UInt8}{r}(h:Vh l i c nm k=I r):jy pr (X pr) 178 [sl 4 zr l,Iv i,.fn (.func 236) [] [.ah (.fn (.func 170) [] [.ah (Iv c),.ah (.fn (.func 167) [] [.ah (.str nm)]),.ah (.str k)])]]=I (sl 4 zr r,Ef):=by
 refine Wd (fun n x y hx hy=>?_) h
 obtain⟨cs,h1,h2⟩:=zbu hx hy
 exact⟨cs,by rw[zd (show pr.bj 236=I nh from rfl) (by simp)];simp only[go_sem,seval,nh,h1]<;>rfl,h2⟩
def Hg (t s:qj)(x:qi):Option qi:=jw (f177 x.dt t s) fun v=>I { x with dt:=v.1 }
theorem zaa {l:List qi}{i:Nat}{x y:qi}{t s:qj}(hx:l[i]?=I x)(h:Hg t s x=I y):
  ∃cs,zf pr (X pr) 176 [.ptr 0 (i*4+1),.ah (zz t),.ah (.fn (.func 174) [] [.ah (zz s)])] [.cells (bB zr l)]=I (.aB [],Ef,[.cells cs])∧cs.map (·.1)=yw zr (l.set i y):=by
 unfold Hg at h
 have ld:y8 (bB zr l) (i*4+1+1) 1=I [sl 3 zz x.dt]:=uF (o:=2) cm.len hx (by decide)
 have hb:i*4+1+1<(bB zr l).length:=H2 cm (o:=2) hx (by decide)
 obtain⟨v,hv,h⟩:=jx h
 cases h
 have w:jy pr (X pr) 177 [sl 3 zz x.dt,aT t,.fn (.func 174) [] [.ah (aT s)]]=I (sl 3 zz v.1,v.2):=zbo hv
 rcases v with⟨v,o⟩
 have hy:(zr { x with dt:=v }).flat=(zr x).flat.set 2 (sl 3 zz v):=rfl
 have st:yh (bB zr l) (i*4+1+1) [sl 3 zz v]=I (bB zr (l.set i { x with dt:=v })):=l0 (o:=2) cm.len hx (E1 rfl) (by simp only[E9,go_sem,E3]) rfl
 cases o with
 |true=>exact⟨_,by rw[zd (show pr.bj 176=I ni from rfl) (by simp)];simp only[go_sem,seval,ni,zz,ld,w,hb]<;>rfl,Ej cm (o:=2) hx (by decide) hy En⟩
 |false=>exact⟨_,by rw[zd (show pr.bj 176=I ni from rfl) (by simp)];simp only[go_sem,seval,ni,zz,ld,w,st]<;>rfl,kx⟩
def Vi (l:Option (List qi))(i:Int)(t s:qj):Option (Option (List qi)):=fN l i (Hg t s)
theorem jgg {l:Option (List qi)}{i:Int}{t s:qj}{r}(h:Vi l i t s=I r):jy pr (X pr) 178 [sl 4 zr l,Iv i,.fn (.func 236) [] [.ah (.fn (.func 176) [] [.ah (zz t),.ah (.fn (.func 174) [] [.ah (zz s)])])]]=I (sl 4 zr r,Ef):=by
 refine Wd (fun n x y hx hy=>?_) h
 obtain⟨cs,h1,h2⟩:=zaa hx hy
 simp only[ja5]at h1
 exact⟨cs,by rw[zd (show pr.bj 236=I nh from rfl) (by simp)];simp only[go_sem,seval,nh,h1]<;>rfl,h2⟩
def Nw (x:qi):Option qi:=jw (f181 ⟨x.dn,x.dt⟩) fun d=>jw (f180 x.aH d) fun v=>I { x with aH:=v }
theorem zec {l:List qi}{i:Nat}{x y:qi}(hx:l[i]?=I x)(h:Nw x=I y):
  ∃cs,zf pr (X pr) 179 [.ptr 0 (i*4)] [.cells (bB zr l)]=I (.aB [],Ef,[.cells cs])∧cs.map (·.1)=yw zr (l.set i y):=by
 unfold Nw at h
 have ld:y8 (bB zr l) (i*4+3) 1=I [sl 2 dp x.aH]:=uF (o:=3) cm.len hx (by decide)
 have Wi:y8 (bB zr l) (i*4+1) 2=I [sl 2 aS x.dn,sl 3 zz x.dt]:=uF (o:=1) cm.len hx (by decide)
 have hb:i*4+3<(bB zr l).length:=H2 cm (o:=3) hx (by decide)
 obtain⟨d,hd,h⟩:=jx h
 obtain⟨v,hv,h⟩:=jx h
 cases h
 have w:jy pr (X pr) 181 [.agg [sl 2 aS x.dn,sl 3 zz x.dt]]=I (aD d,Ef):=zf9 hd
 have w2:jy pr (X pr) 180 [sl 2 dp x.aH,aD d]=I (sl 2 dp v,En):=zff hv
 have hy:(zr { x with aH:=v }).flat=(zr x).flat.set 3 (sl 2 dp v):=rfl
 exact⟨_,by rw[zd (show pr.bj 179=I rW from rfl) (by simp)];simp only[go_sem,seval,rW,ld,Wi,w,w2,hb]<;>rfl,Ej cm (o:=3) hx (by decide) hy En⟩
def Nv (l:Option (List qi))(i:Int):Option (Option (List qi)):=fN l i Nw
theorem je0 {l:Option (List qi)}{i:Int}{r}(h:Nv l i=I r):jy pr (X pr) 178 [sl 4 zr l,Iv i,.fn (.func 179) [] []]=I (sl 4 zr r,Ef):=
 Wd (fun n x y hx hy=>zec hx hy) h
def Nx (e:ql)(x:qf):Option qf:=jw (zo (e.names.getD []) 1) fun n=>jw (zo (e.values.getD []) 1) fun b=>jw (f194 x.results ⟨n,x.version,b⟩) fun v=>I { x with results:=v }
theorem zcx {l:List qf}{i:Nat}{x y:qf}{e:ql}(hx:l[i]?=I x)(h:Nx e x=I y):
  ∃cs,zf pr (X pr) 193 [.ptr 0 (i*8),.ah (vev e)] [.cells (bB bp l)]=I (.aB [],Ef,[.cells cs])∧cs.map (·.1)=yw bp (l.set i y):=by
 unfold Nx at h
 have ld:y8 (bB bp l) (i*8+4) 1=I [sl 3 zz x.results]:=uF (o:=4) dJ.len hx (by decide)
 have Wi:y8 (bB bp l) (i*8+2) 1=I [Iv x.version]:=uF (o:=2) dJ.len hx (by decide)
 have hb:i*8+4<(bB bp l).length:=H2 dJ (o:=4) hx (by decide)
 obtain⟨n,hn,h⟩:=jx h
 obtain⟨b,DB,h⟩:=jx h
 obtain⟨v,hv,h⟩:=jx h
 cases h
 have w:jy pr (X pr) 194 [sl 3 zz x.results,.agg [.str n,Iv x.version,Iv b]]=I (sl 3 zz v,En):=zef hv
 have hy:(bp { x with results:=v }).flat=(bp x).flat.set 4 (sl 3 zz v):=rfl
 exact⟨_,by rw[zd (show pr.bj 193=I rX from rfl) (by simp)];simp only[go_sem,seval,rX,vev,kc hn,kc DB,ld,Wi,w,hb]<;>rfl,Ej dJ (o:=4) hx (by decide) hy En⟩
def Vp (l:Option (List qf))(i:Int)(e:ql):Option (Option (List qf)):=fN l i (Nx e)
theorem jie {l:Option (List qf)}{i:Int}{e:ql}{r}(h:Vp l i e=I r):jy pr (X pr) 189 [sl 8 bp l,Iv i,.fn (.func 193) [] [.ah (vev e)]]=I (sl 8 bp r,Ef):=
 Ei (fun n x y hx hy=>zcx hx hy) h
def D8 (s:qm)(t:qk)(x:qf):Option qf:=jw (f191 x.uses s t) fun v=>I { x with uses:=v.1 }
theorem jpr {b0 b1 b2 b3:qn}{l:List qf}{i:Nat}{x y:qf}{s:qm}{t:qk}(hx:l[i]?=I x)(h:D8 s t x=I y):
  ∃cs,zf pr (X pr) 190 [.ptr 5 (i*8),.ptr 4 0,.ah (.fn (.func 187) [] [.ah (z7 t)])] [b0,b1,b2,b3,.cells [(.str s.k,Ef),(Iv s.n,Ef)],.cells (bB bp l)]=I (.aB [],Ef,[b0,b1,b2,b3,.cells [(.str s.k,Ef),(Iv s.n,Ef)],.cells cs])∧cs.map (·.1)=yw bp (l.set i y):=by
 unfold D8 at h
 have ld:y8 (bB bp l) (i*8+3) 1=I [sl 2 aS x.uses]:=uF (o:=3) dJ.len hx (by decide)
 have hb:i*8+3<(bB bp l).length:=H2 dJ (o:=3) hx (by decide)
 obtain⟨v,hv,h⟩:=jx h
 cases h
 have w:jy pr (X pr) 191 [sl 2 aS x.uses,aN s,.fn (.func 187) [] [.ah (aL t)]]=I (sl 2 aS v.1,v.2):=zfu hv
 rcases v with⟨v,o⟩
 have hy:(bp { x with uses:=v }).flat=(bp x).flat.set 3 (sl 2 aS v):=rfl
 have st:yh (bB bp l) (i*8+3) [sl 2 aS v]=I (bB bp (l.set i { x with uses:=v })):=l0 (o:=3) dJ.len hx (E1 rfl) (by simp only[E9,go_sem,E3]) rfl
 cases o with
 |true=>exact⟨_,by rw[zd (show pr.bj 190=I nj from rfl) (by simp)];simp only[go_sem,seval,nj,z7,ld,w,hb]<;>rfl,Ej dJ (o:=3) hx (by decide) hy En⟩
 |false=>exact⟨_,by rw[zd (show pr.bj 190=I nj from rfl) (by simp)];simp only[go_sem,seval,nj,z7,ld,w,st]<;>rfl,kx⟩
end Go.Z
namespace Go.Z
open Go Go.Abs Go.W
def AH {α:Type}(l:Option (List α))(i:Int)(x:α):Option (Option (List α)):=
 if(l.getD []).length≤1073741824∧0≤i∧i<(l.getD []).length then I (I ((l.getD []).set i.toNat x))else E4
theorem Wj {α:Type}{l:Option (List α)}{i:Int}{x:α}{r}(h:AH l i x=I r):∃(n:Nat),i=(n:Int)∧(l.getD []).length≤1073741824∧n<(l.getD []).length∧r=I ((l.getD []).set n x):=by
 unfold AH at h
 split at h
 ·rename_i hc
  cases h
  exact⟨i.toNat,(Int.toNat_of_nonneg hc.2.1).symm,hc.1,by omega,rfl⟩
 ·cases h
section
variable {α:Type}{f:α→qa}{sz:Nat}{h:j8}
theorem jac {l:List α}:cellsOf ((l.map f).flatMap qa.flat)=bB f l:=rfl
theorem Wk (E:oF f sz){n0 r b t:Nat}{l:Option (List α)}(hl:(l.getD []).length≤1073741824)(hb:b≤4096){h':j8}(hh:aJ n0 h r (.cells (bB f (l.getD [])))=I h'):A8 n0 r sz b h (I t) (I (.list Ef sz [])) (I (sl sz f l))=I ⟨.ms (n0+r) 0 (l.getD []).length,Ef,I t,h'⟩:=by
 have hs:kj sz (sl sz f l)=I ((l.getD []).map f):=Uy
 have h1:0<sz:=by have:=E.big;omega
 simp only[A8]
 rw[hs]
 simp only[Option.isSome_some,Nat.beq_refl,E3,cT,E7,E6 hl,E6 hb,Nat.blt_eq.mpr h1,jac,hh]
theorem Wl (E:oF f sz){l:List α}{i:Nat}{y:α}(hi:i<l.length):yh (bB f l) (i*sz) (f y).flat=I (bB f (l.set i y)):=by
 have hx:l[i]?=I l[i]:=List.getElem?_eq_getElem hi
 have hl:=E.len l[i]
 have hly:=E.len y
 have:=l0 (o:=0) (us:=(f y).flat) (y:=y) E.len hx (by omega) (E.sc y) (by rw[List.take_zero,List.nil_append,List.drop_eq_nil_of_le (by omega),List.append_nil])
 rw[Nat.add_zero]at this
 exact this
end
def f206 (a0:qc)(a1:Int)(x:qk):Option qc:=jw (AH a0.au a1 x) fun v=>I { a0 with au:=v }
theorem jpa {a0:qc}{a1:Int}{x:qk}{r}(h:f206 a0 a1 x=I r):jy pr (X pr) 206 [aR a0,Iv a1,aL x]=I (aR r,Ef):=by
 obtain⟨v,hv,h⟩:=jx h
 cases h
 obtain⟨n,rfl,hl,hi,rfl⟩:=Wj hv
 have ap:A8 2 0 5 56 [kR a0.day a0.au a0.ae a0.units,kZ,.hole] (I 7) (I (.list Ef 5 [])) (I (sl 5 z7 a0.au))=I ⟨.ms 2 0 (a0.au.getD []).length,Ef,I 7,[kR a0.day a0.au a0.ae a0.units,kZ,.cells (bB z7 (a0.au.getD []))]⟩:=by apply Wk fO<;>first|exact hl|rfl|decide
 have st:yh (bB z7 (a0.au.getD [])) (n*5) [.str x.name,.str x.kind,Iv x.count,Iv x.left,.bool x.held]=I (bB z7 ((a0.au.getD []).set n x)):=Wl (y:=x) fO hi
 have this:zf pr (X pr) 206 [aR a0,Iv (n:Int),aL x] []=I (.agg [Iv a0.day,.ms 2 0 (a0.au.getD []).length,sl 4 zr a0.ae,sl 8 bp a0.units],Ef,[.cells [(Iv a0.day,Ef),(.ms 2 0 (a0.au.getD []).length,Ef),(sl 4 zr a0.ae,Ef),(sl 8 bp a0.units,Ef)],.cells [(Iv a0.day,Ef),(.ms 2 0 (a0.au.getD []).length,Ef),(sl 4 zr a0.ae,Ef),(sl 8 bp a0.units,Ef)],.cells (bB z7 ((a0.au.getD []).set n x))]):=by
  rw[zd (show pr.bj 206=I rZ from rfl) (by simp)]
  simp only[go_sem,seval,rZ,ap,uU hi,st]<;>rfl
 have fz:iB [.cells [(Iv a0.day,Ef),(.ms 2 0 (a0.au.getD []).length,Ef),(sl 4 zr a0.ae,Ef),(sl 8 bp a0.units,Ef)],.cells [(Iv a0.day,Ef),(.ms 2 0 (a0.au.getD []).length,Ef),(sl 4 zr a0.ae,Ef),(sl 8 bp a0.units,Ef)],.cells (bB z7 ((a0.au.getD []).set n x))] (.ms 2 0 (a0.au.getD []).length)=I (sl 5 z7 (I ((a0.au.getD []).set n x))):=by
  have:=uT fO (l:=(a0.au.getD []).set n x) (by rw[E0];omega) (cs:=bB z7 ((a0.au.getD []).set n x)) kx
  rw[E0]at this
  exact this
 refine ko rfl this (v':=.agg [Iv a0.day,sl 5 z7 (I ((a0.au.getD []).set n x)),sl 4 zr a0.ae,sl 8 bp a0.units]) ?_ (by first|rfl|simp only[go_sem,seval])
 rw[UF]
 simp only[go_sem,seval,fz]<;>rfl
def f205 (a0:qc)(a1:Int)(x:qi):Option qc:=jw (AH a0.ae a1 x) fun v=>I { a0 with ae:=v }
theorem zhw {a0:qc}{a1:Int}{x:qi}{r}(h:f205 a0 a1 x=I r):jy pr (X pr) 205 [aR a0,Iv a1,aP x]=I (aR r,Ef):=by
 obtain⟨v,hv,h⟩:=jx h
 cases h
 obtain⟨n,rfl,hl,hi,rfl⟩:=Wj hv
 have ap:A8 2 0 4 88 [kR a0.day a0.au a0.ae a0.units,kZ,.hole] (I 7) (I (.list Ef 4 [])) (I (sl 4 zr a0.ae))=I ⟨.ms 2 0 (a0.ae.getD []).length,Ef,I 7,[kR a0.day a0.au a0.ae a0.units,kZ,.cells (bB zr (a0.ae.getD []))]⟩:=by apply Wk cm<;>first|exact hl|rfl|decide
 have st:yh (bB zr (a0.ae.getD [])) (n*4) [.str x.name,sl 2 aS x.dn,sl 3 zz x.dt,sl 2 dp x.aH]=I (bB zr ((a0.ae.getD []).set n x)):=Wl (y:=x) cm hi
 have this:zf pr (X pr) 205 [aR a0,Iv (n:Int),aP x] []=I (.agg [Iv a0.day,sl 5 z7 a0.au,.ms 2 0 (a0.ae.getD []).length,sl 8 bp a0.units],Ef,[.cells [(Iv a0.day,Ef),(sl 5 z7 a0.au,Ef),(.ms 2 0 (a0.ae.getD []).length,Ef),(sl 8 bp a0.units,Ef)],.cells [(Iv a0.day,Ef),(sl 5 z7 a0.au,Ef),(.ms 2 0 (a0.ae.getD []).length,Ef),(sl 8 bp a0.units,Ef)],.cells (bB zr ((a0.ae.getD []).set n x))]):=by
  rw[zd (show pr.bj 205=I sd from rfl) (by simp)]
  simp only[go_sem,seval,sd,ap,uU hi,st]<;>rfl
 have fz:iB [.cells [(Iv a0.day,Ef),(sl 5 z7 a0.au,Ef),(.ms 2 0 (a0.ae.getD []).length,Ef),(sl 8 bp a0.units,Ef)],.cells [(Iv a0.day,Ef),(sl 5 z7 a0.au,Ef),(.ms 2 0 (a0.ae.getD []).length,Ef),(sl 8 bp a0.units,Ef)],.cells (bB zr ((a0.ae.getD []).set n x))] (.ms 2 0 (a0.ae.getD []).length)=I (sl 4 zr (I ((a0.ae.getD []).set n x))):=by
  have:=uT cm (l:=(a0.ae.getD []).set n x) (by rw[E0];omega) (cs:=bB zr ((a0.ae.getD []).set n x)) kx
  rw[E0]at this
  exact this
 refine ko rfl this (v':=.agg [Iv a0.day,sl 5 z7 a0.au,sl 4 zr (I ((a0.ae.getD []).set n x)),sl 8 bp a0.units]) ?_ (by first|rfl|simp only[go_sem,seval])
 rw[UF]
 simp only[go_sem,seval,fz]<;>rfl
def f209 (a0:qc)(a1:Int)(x:qf):Option qc:=jw (AH a0.units a1 x) fun v=>I { a0 with units:=v }
theorem Wm {a0:qc}{a1:Int}{x:qf}{r}(h:f209 a0 a1 x=I r):jy pr (X pr) 209 [aR a0,Iv a1,aU x]=I (aR r,Ef):=by
 obtain⟨v,hv,h⟩:=jx h
 cases h
 obtain⟨n,rfl,hl,hi,rfl⟩:=Wj hv
 have ap:A8 2 0 8 120 [kR a0.day a0.au a0.ae a0.units,kZ,.hole] (I 7) (I (.list Ef 8 [])) (I (sl 8 bp a0.units))=I ⟨.ms 2 0 (a0.units.getD []).length,Ef,I 7,[kR a0.day a0.au a0.ae a0.units,kZ,.cells (bB bp (a0.units.getD []))]⟩:=by apply Wk dJ<;>first|exact hl|rfl|decide
 have st:yh (bB bp (a0.units.getD [])) (n*8) [.str x.name,.str x.product,Iv x.version,sl 2 aS x.uses,sl 3 zz x.results,.str x.partner,.bool x.aq,Iv x.ai]=I (bB bp ((a0.units.getD []).set n x)):=Wl (y:=x) dJ hi
 have this:zf pr (X pr) 209 [aR a0,Iv (n:Int),aU x] []=I (.agg [Iv a0.day,sl 5 z7 a0.au,sl 4 zr a0.ae,.ms 2 0 (a0.units.getD []).length],Ef,[.cells [(Iv a0.day,Ef),(sl 5 z7 a0.au,Ef),(sl 4 zr a0.ae,Ef),(.ms 2 0 (a0.units.getD []).length,Ef)],.cells [(Iv a0.day,Ef),(sl 5 z7 a0.au,Ef),(sl 4 zr a0.ae,Ef),(.ms 2 0 (a0.units.getD []).length,Ef)],.cells (bB bp ((a0.units.getD []).set n x))]):=by
  rw[zd (show pr.bj 209=I sg from rfl) (by simp)]
  simp only[go_sem,seval,sg,ap,uU hi,st]<;>rfl
 have fz:iB [.cells [(Iv a0.day,Ef),(sl 5 z7 a0.au,Ef),(sl 4 zr a0.ae,Ef),(.ms 2 0 (a0.units.getD []).length,Ef)],.cells [(Iv a0.day,Ef),(sl 5 z7 a0.au,Ef),(sl 4 zr a0.ae,Ef),(.ms 2 0 (a0.units.getD []).length,Ef)],.cells (bB bp ((a0.units.getD []).set n x))] (.ms 2 0 (a0.units.getD []).length)=I (sl 8 bp (I ((a0.units.getD []).set n x))):=by
  have:=uT dJ (l:=(a0.units.getD []).set n x) (by rw[E0];omega) (cs:=bB bp ((a0.units.getD []).set n x)) kx
  rw[E0]at this
  exact this
 refine ko rfl this (v':=.agg [Iv a0.day,sl 5 z7 a0.au,sl 4 zr a0.ae,sl 8 bp (I ((a0.units.getD []).set n x))]) ?_ (by first|rfl|simp only[go_sem,seval])
 rw[UF]
 simp only[go_sem,seval,fz]<;>rfl
end Go.Z
namespace Go.Z
open Go Go.Abs Go.W
def AJ (a0:Option (List qm))(a1:qm)(s0:(Option (List qm))×Bool×Int×Bool):Option (((Option (List qm))×Bool×Int×Bool)⊕(((Option (List qm))×Bool×Bool×Int))):=
 cond (decide (s0.2.2.1<((a0.getD []).length:Int)))
  (jw (zo (a0.getD []) s0.2.2.1) fun v24=>
  cond (decide (v24.k=a1.k))
   (cond (decide (0<a1.n))
    (cond s0.2.2.2
     (jw (bh s0.1 [a1]) fun hO=>
     I (.inl (hO,En,j6 .i64 (s0.2.2.1+1),En)))
     (cond s0.1.isNone
      (jw (bh s0.1 [a1]) fun jM=>
      I (.inl (jM,En,j6 .i64 (s0.2.2.1+1),En)))
      (E4)))
    (I (.inl (s0.1,En,j6 .i64 (s0.2.2.1+1),s0.2.2.2))))
   (cond s0.2.2.2
    (jw (bh s0.1 [v24]) fun vY=>
    I (.inl (vY,s0.2.1,j6 .i64 (s0.2.2.1+1),En)))
    (cond s0.1.isNone
     (jw (bh s0.1 [v24]) fun si=>
     I (.inl (si,s0.2.1,j6 .i64 (s0.2.2.1+1),En)))
     (E4))))
  (I (.inr (s0.1,s0.2.2.2,s0.2.1,s0.2.2.1)))
def H3 (a0:Option (List qm))(a1:qm)(s0:(Option (List qm))×Bool×Int×Bool):qg:=⟨[(0,sl 2 aS a0,Ef),(3,.ah (aN a1),Ef),(5,sl 2 aS s0.1,s0.2.2.2),(6,.bool s0.2.1,Ef),(7,Iv s0.2.2.1,Ef)],[]⟩
def H4 (a0:Option (List qm))(a1:qm)(d:((Option (List qm))×Bool×Bool×Int)):qo×qg:=(.exit 0,⟨[(0,sl 2 aS a0,Ef),(3,.ah (aN a1),Ef),(5,sl 2 aS d.1,d.2.1),(6,.bool d.2.2.1,Ef),(7,Iv d.2.2.2,Ef),(11,.bool Ef,Ef)],[]⟩)
theorem jpd (a0:Option (List qm))(a1:qm)(s0:(Option (List qm))×Bool×Int×Bool)(r)(h:AJ a0 a1 s0=I r):yp pr H5 (H3 a0 a1) (H4 a0 a1) s0 r:=by
 unfold AJ at h
 repeat' first|(replace h:=jx h;obtain⟨d,g,h⟩:=h;with_reducible first|replace g:=vH g|skip)|(replace h:=jz h;rcases h with⟨g,h⟩|⟨g,h⟩)|fail
 all_goals (cases h<;>(first|(refine zw ?_;simp only[go_sem,seval,H5,H3,zn,H4, *]<;>rfl)|(refine yj ?_;simp only[go_sem,seval,H5,H3,zn,H4, *]<;>rfl)))
theorem jqg (a0:Option (List qm))(a1:qm){s0:(Option (List qm))×Bool×Int×Bool}{d}(h:bf (AJ a0 a1) s0=I d):X pr (.loop H5) (H3 a0 a1 s0)=I (H4 a0 a1 d):=y7 (jpd a0 a1) (fun d hh=>by cases hh) h
def f203 (a0:Option (List qm))(a1:qm):Option ((Option (List qm))×Bool):=
 jw (bf (AJ a0 a1) (E4,Ef,0,Ef)) fun d40=>
 cond d40.2.2.1
  (I (d40.1,d40.2.1))
  (cond (decide (0<a1.n))
   (cond d40.2.1
    (jw (bh d40.1 [a1]) fun yn=>
    I (yn,En))
    (cond d40.1.isNone
     (jw (bh d40.1 [a1]) fun H6=>
     I (H6,En))
     (E4)))
   (I (d40.1,d40.2.1)))
theorem zep {a0:Option (List qm)}{a1:qm}{r}(h:f203 a0 a1=I r):jy pr (X pr) 203 [sl 2 aS a0,aN a1]=I (sl 2 aS r.1,r.2):=by
 unfold f203 at h
 refine fk vZ ?_
 repeat' first|(replace h:=jx h;obtain⟨d,g,h⟩:=h;with_reducible first|replace g:=vH g|(replace g:=jqg a0 a1 g;dsimp only[H3,H4,y9]at g h)|skip)|(replace h:=jz h;rcases h with⟨g,h⟩|⟨g,h⟩)|fail
 all_goals (cases h<;>(simp only[go_sem,seval,vZ, *];exact⟨_,rfl⟩))
def AK (a0:Option (List qj))(a1:qj)(s0:(Option (List qj))×Bool×Int×Bool):Option (((Option (List qj))×Bool×Int×Bool)⊕(((Option (List qj))×Bool×Bool×Int))):=
 cond (decide (s0.2.2.1<((a0.getD []).length:Int)))
  (jw (zo (a0.getD []) s0.2.2.1) fun ej=>
  cond (decide (ej.k=a1.k))
   (cond s0.2.2.2
    (jw (bh s0.1 [a1]) fun fC=>
    I (.inl (fC,En,j6 .i64 (s0.2.2.1+1),En)))
    (cond s0.1.isNone
     (jw (bh s0.1 [a1]) fun hO=>
     I (.inl (hO,En,j6 .i64 (s0.2.2.1+1),En)))
     (E4)))
   (cond s0.2.2.2
    (jw (bh s0.1 [ej]) fun jM=>
    I (.inl (jM,s0.2.1,j6 .i64 (s0.2.2.1+1),En)))
    (cond s0.1.isNone
     (jw (bh s0.1 [ej]) fun vY=>
     I (.inl (vY,s0.2.1,j6 .i64 (s0.2.2.1+1),En)))
     (E4))))
  (I (.inr (s0.1,s0.2.2.2,s0.2.1,s0.2.2.1)))
def H7 (a0:Option (List qj))(a1:qj)(s0:(Option (List qj))×Bool×Int×Bool):qg:=⟨[(0,sl 3 zz a0,Ef),(3,.ah (aT a1),Ef),(5,sl 3 zz s0.1,s0.2.2.2),(6,.bool s0.2.1,Ef),(7,Iv s0.2.2.1,Ef)],[]⟩
def H8 (a0:Option (List qj))(a1:qj)(d:((Option (List qj))×Bool×Bool×Int)):qo×qg:=(.exit 0,⟨[(0,sl 3 zz a0,Ef),(3,.ah (aT a1),Ef),(5,sl 3 zz d.1,d.2.1),(6,.bool d.2.2.1,Ef),(7,Iv d.2.2.2,Ef),(11,.bool Ef,Ef)],[]⟩)
theorem jsj (a0:Option (List qj))(a1:qj)(s0:(Option (List qj))×Bool×Int×Bool)(r)(h:AK a0 a1 s0=I r):yp pr H9 (H7 a0 a1) (H8 a0 a1) s0 r:=by
 unfold AK at h
 repeat' first|(replace h:=jx h;obtain⟨d,g,h⟩:=h;with_reducible first|replace g:=xt g|skip)|(replace h:=jz h;rcases h with⟨g,h⟩|⟨g,h⟩)|fail
 all_goals (cases h<;>(first|(refine zw ?_;simp only[go_sem,seval,H9,H7,zn,H8, *]<;>rfl)|(refine yj ?_;simp only[go_sem,seval,H9,H7,zn,H8, *]<;>rfl)))
theorem jsa (a0:Option (List qj))(a1:qj){s0:(Option (List qj))×Bool×Int×Bool}{d}(h:bf (AK a0 a1) s0=I d):X pr (.loop H9) (H7 a0 a1 s0)=I (H8 a0 a1 d):=y7 (jsj a0 a1) (fun d hh=>by cases hh) h
def f204 (a0:Option (List qj))(a1:qj):Option ((Option (List qj))×Bool):=
 jw (bf (AK a0 a1) (E4,Ef,0,Ef)) fun d37=>
 cond d37.2.2.1
  (I (d37.1,d37.2.1))
  (cond d37.2.1
   (jw (bh d37.1 [a1]) fun wc=>
   I (wc,En))
   (cond d37.1.isNone
    (jw (bh d37.1 [a1]) fun oJ=>
    I (oJ,En))
    (E4)))
theorem zdi {a0:Option (List qj)}{a1:qj}{r}(h:f204 a0 a1=I r):jy pr (X pr) 204 [sl 3 zz a0,aT a1]=I (sl 3 zz r.1,r.2):=by
 unfold f204 at h
 refine fk wh ?_
 repeat' first|(replace h:=jx h;obtain⟨d,g,h⟩:=h;with_reducible first|replace g:=xt g|(replace g:=jsa a0 a1 g;dsimp only[H7,H8,y9]at g h)|skip)|(replace h:=jz h;rcases h with⟨g,h⟩|⟨g,h⟩)|fail
 all_goals (cases h<;>(simp only[go_sem,seval,wh, *];exact⟨_,rfl⟩))
def AL (a0:Option (List qm))(a1:List UInt8)(a2:Int)(s0:(Option (List qm))×Bool×Int×Bool):Option (((Option (List qm))×Bool×Int×Bool)⊕(((Option (List qm))×Bool×Bool×Int))):=
 cond (decide (s0.2.2.1<((a0.getD []).length:Int)))
  (jw (zo (a0.getD []) s0.2.2.1) fun ej=>
  cond (decide (ej.k=a1))
   (cond s0.2.2.2
    (jw (bh s0.1 [⟨ej.k,j6 .i64 (ej.n+a2)⟩]) fun fC=>
    I (.inl (fC,En,j6 .i64 (s0.2.2.1+1),En)))
    (cond s0.1.isNone
     (jw (bh s0.1 [⟨ej.k,j6 .i64 (ej.n+a2)⟩]) fun hO=>
     I (.inl (hO,En,j6 .i64 (s0.2.2.1+1),En)))
     (E4)))
   (cond s0.2.2.2
    (jw (bh s0.1 [ej]) fun jM=>
    I (.inl (jM,s0.2.1,j6 .i64 (s0.2.2.1+1),En)))
    (cond s0.1.isNone
     (jw (bh s0.1 [ej]) fun vY=>
     I (.inl (vY,s0.2.1,j6 .i64 (s0.2.2.1+1),En)))
     (E4))))
  (I (.inr (s0.1,s0.2.2.2,s0.2.1,s0.2.2.1)))
def Bd (a0:Option (List qm))(a1:List UInt8)(a2:Int)(s0:(Option (List qm))×Bool×Int×Bool):qg:=⟨[(0,sl 2 aS a0,Ef),(1,.str a1,Ef),(2,Iv a2,Ef),(7,sl 2 aS s0.1,s0.2.2.2),(8,.bool s0.2.1,Ef),(9,Iv s0.2.2.1,Ef)],[]⟩
def Ia (a0:Option (List qm))(a1:List UInt8)(a2:Int)(d:((Option (List qm))×Bool×Bool×Int)):qo×qg:=(.exit 0,⟨[(0,sl 2 aS a0,Ef),(1,.str a1,Ef),(2,Iv a2,Ef),(7,sl 2 aS d.1,d.2.1),(8,.bool d.2.2.1,Ef),(9,Iv d.2.2.2,Ef),(14,.bool Ef,Ef)],[]⟩)
theorem jp8 (a0:Option (List qm))(a1:List UInt8)(a2:Int)(s0:(Option (List qm))×Bool×Int×Bool)(r)(h:AL a0 a1 a2 s0=I r):yp pr Ib (Bd a0 a1 a2) (Ia a0 a1 a2) s0 r:=by
 unfold AL at h
 repeat' first|(replace h:=jx h;obtain⟨d,g,h⟩:=h;with_reducible first|replace g:=vH g|skip)|(replace h:=jz h;rcases h with⟨g,h⟩|⟨g,h⟩)|fail
 all_goals (cases h<;>(first|(refine zw ?_;simp only[go_sem,seval,Ib,Bd,zn,Ia, *]<;>rfl)|(refine q61 ?_ rfl (by first|simp only[go_sem,seval,Bd]|rfl) (by first|simp only[go_sem,seval,Bd]|rfl);simp only[go_sem,seval,Ib,Bd,zn,Ia, *];exact⟨_,rfl⟩)))
theorem jr0 (a0:Option (List qm))(a1:List UInt8)(a2:Int){s0:(Option (List qm))×Bool×Int×Bool}{d}(h:bf (AL a0 a1 a2) s0=I d):X pr (.loop Ib) (Bd a0 a1 a2 s0)=I (Ia a0 a1 a2 d):=y7 (jp8 a0 a1 a2) (fun d hh=>by cases hh) h
def f252 (a0:Option (List qm))(a1:List UInt8)(a2:Int):Option ((Option (List qm))×Bool):=
 jw (bf (AL a0 a1 a2) (E4,Ef,0,Ef)) fun d37=>
 cond d37.2.2.1
  (I (d37.1,d37.2.1))
  (cond d37.2.1
   (jw (bh d37.1 [⟨a1,a2⟩]) fun wc=>
   I (wc,En))
   (cond d37.1.isNone
    (jw (bh d37.1 [⟨a1,a2⟩]) fun oJ=>
    I (oJ,En))
    (E4)))
theorem zbc {a0:Option (List qm)}{a1:List UInt8}{a2:Int}{r}(h:f252 a0 a1 a2=I r):jy pr (X pr) 252 [sl 2 aS a0,.str a1,Iv a2]=I (sl 2 aS r.1,r.2):=by
 unfold f252 at h
 refine fk wi ?_
 repeat' first|(replace h:=jx h;obtain⟨d,g,h⟩:=h;with_reducible first|replace g:=vH g|(replace g:=jr0 a0 a1 a2 g;dsimp only[Bd,Ia,y9]at g h)|skip)|(replace h:=jz h;rcases h with⟨g,h⟩|⟨g,h⟩)|fail
 all_goals (cases h<;>(simp only[go_sem,seval,wi, *];exact⟨_,rfl⟩))
def f124 (a0:qc)(a1:ql):Option (qc×Int):=
 jw (zo (a1.names.getD []) 0) fun v1=>
 cond (decide (a1.kind=([108,111,116]:List UInt8)))
  (jw (f28 a0 v1) fun v4=>
  cond (decide (0≤v4))
   (I (a0,9))
   (jw (zo (a1.values.getD []) 1) fun v7=>
   jw (f59 v7 1 10000) fun v9=>
   cond v9
    (I (a0,3))
    (cond (decide (64≤((a0.au.getD []).length:Int)))
     (I (a0,5))
     (jw (bh (I []) (a0.au.getD [])) fun dU=>
     jw (zo (a1.names.getD []) 1) fun eZ=>
     jw (bh dU [⟨v1,eZ,v7,v7,Ef⟩]) fun fT=>
     I (⟨a0.day,fT,a0.ae,a0.units⟩,0)))))
  (cond (decide (a1.kind=([112,114,111,100,117,99,116]:List UInt8)))
   (jw (f144 a0 v1) fun v20=>
   cond (decide (0≤v20))
    (I (a0,9))
    (cond (decide (16≤((a0.ae.getD []).length:Int)))
     (I (a0,5))
     (jw (bh (I []) (a0.ae.getD [])) fun v24=>
     jw (bh v24 [⟨v1,E4,E4,E4⟩]) fun fC=>
     I (⟨a0.day,a0.au,fC,a0.units⟩,0))))
   (jw (zo (a1.names.getD []) 1) fun v28=>
   jw (f144 a0 v28) fun v30=>
   cond (decide (v30<0))
    (I (a0,10))
    (jw (f27 a0 v1) fun wj=>
    cond (decide (0≤wj))
     (I (a0,9))
     (jw (zo (a0.ae.getD []) v30) fun yA=>
     cond (decide (((yA.aH.getD []).length:Int)=0))
      (I (a0,32))
      (cond (decide (256≤((a0.units.getD []).length:Int)))
       (I (a0,5))
       (jw (bh (I []) (a0.units.getD [])) fun v40=>
       jw (bh v40 [⟨v1,v28,((yA.aH.getD []).length:Int),E4,E4,[],Ef,0⟩]) fun Wn=>
       I (⟨a0.day,a0.au,a0.ae,Wn⟩,0)))))))
theorem zay {a0:qc}{a1:ql}{r}(h:f124 a0 a1=I r):jy pr (X pr) 124 [aR a0,aE a1]=I (.aB [aR r.1,Iv r.2],Ef):=by
 unfold f124 at h
 refine y6 wk ?_
 repeat' first|(replace h:=jx h;obtain⟨d,g,h⟩:=h; (with_reducible first|replace g:=Ic g|replace g:=Wo g|replace g:=NR g|replace g:=Wp g|replace g:=Ng g|replace g:=UY g|replace g:=UZ g|skip);try dsimp only[y9,lF,List.map,kr,qae,z7,zr,bp,ya,vev,aS,zz,dp,aE,aR,aU,aL,aP,aD]at g)|(replace h:=jz h;rcases h with⟨g,h⟩|⟨g,h⟩)|fail
 all_goals (cases h<;>(simp only[go_sem,seval,wk,zn,lG, *];exact⟨_,rfl⟩))
end Go.Z
end
