/- Chapter 10. -/
import Derived.Test.YtfopaakmgogpiaaGreatDoorV0
import Derived.Test.YtfopaakmgogpiaaGreatDoorW8
import Derived.Test.YtfopaakmgogpiaaGreatDoorW3
set_option maxRecDepth 100000
set_option maxHeartbeats 4000000
noncomputable section
open Option renaming some→I,none→E6
open Bool renaming false→En,true→E1,and_self→E4
open List renaming length_set→E2,length_map→Gl,all→Gm
open Nat renaming le_of_ble_eq_true→E3,ble_eq_true_of_le→Gk
namespace Go.Z
open Go Go.Abs Go.W
theorem D6 {α:Type}{f:α→qa}{sz:Nat}(E:ou f sz){l:List α}{i o:Nat}{x y:α}{u:qa}(hx:l[i]?=I x)(ho:o<sz)(hy:(f y).flat=(f x).flat.set o u)(w:Bool):((bz f l).set (i*sz+o) (u,w)).map (·.1)=yu f (l.set i y):=by
 have h:=congrArg (List.map (·.1)) (q57 E.len hx ho hy)
 rw[List.map_set]at h ⊢
 rw[show(bz f (l.set i y)).map (·.1)=yu f (l.set i y)from kx]at h
 exact h
theorem HR {α:Type}{f:α→qa}{sz:Nat}(E:ou f sz){l:List α}{i o:Nat}{x:α}(hx:l[i]?=I x)(ho:o<sz):i*sz+o<(bz f l).length:=by
 have h:=(DB (n:=1) (o:=o) E.len hx (by omega)).2
 simp only[bz,cellsOf,Gl]
 omega
def G0 (c:Int)(nm k:List UInt8)(x:qi):Option qi:=cond (decide (c=0))
 (jx (f171 x.dn nm) fun v=>I { x with dn:=v.1 })
 (jx (f173 x.dn ⟨k,c⟩ nm) fun v=>I { x with dn:=v.1 })
theorem zfj {l:List qi}{i:Nat}{x y:qi}{c:Int}{nm k:List UInt8}(hx:l[i]?=I x)(h:G0 c nm k x=I y):
  ∃cs,zg pr (X pr) 170 [.ptr 0 (i*4+1),.ah (Iv c),.ah (.fn (.func 167) [] [.ah (.str nm)]),.ah (.str k)] [.cells (bz zt l)]=I (.aC [],En,[.cells cs])∧cs.map (·.1)=yu zt (l.set i y):=by
 unfold G0 at h
 have ld:y9 (bz zt l) (i*4+1) 1=I [sl 2 aS x.dn]:=uy (o:=1) cg.len hx (by decide)
 have hb:=HR cg (o:=1) hx (by decide)
 rcases j6 h with⟨h1,h⟩|⟨h1,h⟩
 ·obtain⟨v,hv,h⟩:=jy h
  cases h
  have w:=zas [.cells (bz zt l)] hv
  rcases v with⟨v,o⟩
  have hy:(zt { x with dn:=v }).flat=(zt x).flat.set 1 (sl 2 aS v):=rfl
  have st:yi (bz zt l) (i*4+1) [sl 2 aS v]=I (bz zt (l.set i { x with dn:=v })):=lS (o:=1) cg.len hx (E3 rfl) (by simp only[Gm,go_sem,E4]) rfl
  cases o with
  |true=>exact⟨_,by rw[zh (show pr.bL 170=I iw from rfl) (by simp)];simp only[go_sem,seval,iw,h1,ld,w,hb]<;>rfl,D6 cg hx (by decide) hy E1⟩
  |false=>exact⟨_,by rw[zh (show pr.bL 170=I iw from rfl) (by simp)];simp only[go_sem,seval,iw,h1,ld,w,st]<;>rfl,kx⟩
 ·obtain⟨v,hv,h⟩:=jy h
  cases h
  have w:jz pr (X pr) 173 [sl 2 aS x.dn,.agg [.str k,Iv c],.fn (.func 167) [] [.ah (.str nm)]]=I (sl 2 aS v.1,v.2):=zfm hv
  rcases v with⟨v,o⟩
  have hy:(zt { x with dn:=v }).flat=(zt x).flat.set 1 (sl 2 aS v):=rfl
  have st:yi (bz zt l) (i*4+1) [sl 2 aS v]=I (bz zt (l.set i { x with dn:=v })):=lS (o:=1) cg.len hx (E3 rfl) (by simp only[Gm,go_sem,E4]) rfl
  cases o with
  |true=>exact⟨_,by rw[zh (show pr.bL 170=I iw from rfl) (by simp)];simp only[go_sem,seval,iw,h1,ld,w,hb]<;>rfl,D6 cg hx (by decide) hy E1⟩
  |false=>exact⟨_,by rw[zh (show pr.bL 170=I iw from rfl) (by simp)];simp only[go_sem,seval,iw,h1,ld,w,st]<;>rfl,kx⟩
def Vg (l:Option (List qi))(i:Int)(c:Int)(nm k:List UInt8):Option (Option (List qi)):=fL l i (G0 c nm k)
theorem jja {l:Option (List qi)}{i:Int}{c:Int}{nm k:List UInt8}{r}(h:Vg l i c nm k=I r):jz pr (X pr) 178 [sl 4 zt l,Iv i,.fn (.func 236) [] [.ah (.fn (.func 170) [] [.ah (Iv c),.ah (.fn (.func 167) [] [.ah (.str nm)]),.ah (.str k)])]]=I (sl 4 zt r,En):=by
 refine V8 (fun n x y hx hy=>?_) h
 obtain⟨cs,h1,h2⟩:=zfj hx hy
 exact⟨cs,by rw[zh (show pr.bL 236=I mX from rfl) (by simp)];simp only[go_sem,seval,mX,h1]<;>rfl,h2⟩
def G1 (t s:qk)(x:qi):Option qi:=jx (f177 x.dt t s) fun v=>I { x with dt:=v.1 }
theorem zb9 {l:List qi}{i:Nat}{x y:qi}{t s:qk}(hx:l[i]?=I x)(h:G1 t s x=I y):
  ∃cs,zg pr (X pr) 176 [.ptr 0 (i*4+1),.ah (z6 t),.ah (.fn (.func 174) [] [.ah (z6 s)])] [.cells (bz zt l)]=I (.aC [],En,[.cells cs])∧cs.map (·.1)=yu zt (l.set i y):=by
 unfold G1 at h
 have ld:y9 (bz zt l) (i*4+1+1) 1=I [sl 3 z6 x.dt]:=uy (o:=2) cg.len hx (by decide)
 have hb:i*4+1+1<(bz zt l).length:=HR cg (o:=2) hx (by decide)
 obtain⟨v,hv,h⟩:=jy h
 cases h
 have w:jz pr (X pr) 177 [sl 3 z6 x.dt,aT t,.fn (.func 174) [] [.ah (aT s)]]=I (sl 3 z6 v.1,v.2):=zhw hv
 rcases v with⟨v,o⟩
 have hy:(zt { x with dt:=v }).flat=(zt x).flat.set 2 (sl 3 z6 v):=rfl
 have st:yi (bz zt l) (i*4+1+1) [sl 3 z6 v]=I (bz zt (l.set i { x with dt:=v })):=lS (o:=2) cg.len hx (E3 rfl) (by simp only[Gm,go_sem,E4]) rfl
 cases o with
 |true=>exact⟨_,by rw[zh (show pr.bL 176=I mY from rfl) (by simp)];simp only[go_sem,seval,mY,z6,ld,w,hb]<;>rfl,D6 cg (o:=2) hx (by decide) hy E1⟩
 |false=>exact⟨_,by rw[zh (show pr.bL 176=I mY from rfl) (by simp)];simp only[go_sem,seval,mY,z6,ld,w,st]<;>rfl,kx⟩
def Vh (l:Option (List qi))(i:Int)(t s:qk):Option (Option (List qi)):=fL l i (G1 t s)
theorem jhi {l:Option (List qi)}{i:Int}{t s:qk}{r}(h:Vh l i t s=I r):jz pr (X pr) 178 [sl 4 zt l,Iv i,.fn (.func 236) [] [.ah (.fn (.func 176) [] [.ah (z6 t),.ah (.fn (.func 174) [] [.ah (z6 s)])])]]=I (sl 4 zt r,En):=by
 refine V8 (fun n x y hx hy=>?_) h
 obtain⟨cs,h1,h2⟩:=zb9 hx hy
 simp only[jcv]at h1
 exact⟨cs,by rw[zh (show pr.bL 236=I mX from rfl) (by simp)];simp only[go_sem,seval,mX,h1]<;>rfl,h2⟩
def Ny (x:qi):Option qi:=jx (f181 ⟨x.dn,x.dt⟩) fun d=>jx (f180 x.aH d) fun v=>I { x with aH:=v }
theorem zan {l:List qi}{i:Nat}{x y:qi}(hx:l[i]?=I x)(h:Ny x=I y):
  ∃cs,zg pr (X pr) 179 [.ptr 0 (i*4)] [.cells (bz zt l)]=I (.aC [],En,[.cells cs])∧cs.map (·.1)=yu zt (l.set i y):=by
 unfold Ny at h
 have ld:y9 (bz zt l) (i*4+3) 1=I [sl 2 dk x.aH]:=uy (o:=3) cg.len hx (by decide)
 have Wc:y9 (bz zt l) (i*4+1) 2=I [sl 2 aS x.dn,sl 3 z6 x.dt]:=uy (o:=1) cg.len hx (by decide)
 have hb:i*4+3<(bz zt l).length:=HR cg (o:=3) hx (by decide)
 obtain⟨d,hd,h⟩:=jy h
 obtain⟨v,hv,h⟩:=jy h
 cases h
 have w:jz pr (X pr) 181 [.agg [sl 2 aS x.dn,sl 3 z6 x.dt]]=I (aD d,En):=zea hd
 have w2:jz pr (X pr) 180 [sl 2 dk x.aH,aD d]=I (sl 2 dk v,E1):=zds hv
 have hy:(zt { x with aH:=v }).flat=(zt x).flat.set 3 (sl 2 dk v):=rfl
 exact⟨_,by rw[zh (show pr.bL 179=I rS from rfl) (by simp)];simp only[go_sem,seval,rS,ld,Wc,w,w2,hb]<;>rfl,D6 cg (o:=3) hx (by decide) hy E1⟩
def Nx (l:Option (List qi))(i:Int):Option (Option (List qi)):=fL l i Ny
theorem jjc {l:Option (List qi)}{i:Int}{r}(h:Nx l i=I r):jz pr (X pr) 178 [sl 4 zt l,Iv i,.fn (.func 179) [] []]=I (sl 4 zt r,En):=
 V8 (fun n x y hx hy=>zan hx hy) h
def Nz (e:qm)(x:qe):Option qe:=jx (zp (e.names.getD []) 1) fun n=>jx (zp (e.values.getD []) 1) fun b=>jx (f194 x.results ⟨n,x.version,b⟩) fun v=>I { x with results:=v }
theorem zet {l:List qe}{i:Nat}{x y:qe}{e:qm}(hx:l[i]?=I x)(h:Nz e x=I y):
  ∃cs,zg pr (X pr) 193 [.ptr 0 (i*8),.ah (vev e)] [.cells (bz bh l)]=I (.aC [],En,[.cells cs])∧cs.map (·.1)=yu bh (l.set i y):=by
 unfold Nz at h
 have ld:y9 (bz bh l) (i*8+4) 1=I [sl 3 z6 x.results]:=uy (o:=4) dE.len hx (by decide)
 have Wc:y9 (bz bh l) (i*8+2) 1=I [Iv x.version]:=uy (o:=2) dE.len hx (by decide)
 have hb:i*8+4<(bz bh l).length:=HR dE (o:=4) hx (by decide)
 obtain⟨n,hn,h⟩:=jy h
 obtain⟨b,Dm,h⟩:=jy h
 obtain⟨v,hv,h⟩:=jy h
 cases h
 have w:jz pr (X pr) 194 [sl 3 z6 x.results,.agg [.str n,Iv x.version,Iv b]]=I (sl 3 z6 v,E1):=zin hv
 have hy:(bh { x with results:=v }).flat=(bh x).flat.set 4 (sl 3 z6 v):=rfl
 exact⟨_,by rw[zh (show pr.bL 193=I rT from rfl) (by simp)];simp only[go_sem,seval,rT,vev,ko hn,ko Dm,ld,Wc,w,hb]<;>rfl,D6 dE (o:=4) hx (by decide) hy E1⟩
def Vo (l:Option (List qe))(i:Int)(e:qm):Option (Option (List qe)):=fL l i (Nz e)
theorem jjd {l:Option (List qe)}{i:Int}{e:qm}{r}(h:Vo l i e=I r):jz pr (X pr) 189 [sl 8 bh l,Iv i,.fn (.func 193) [] [.ah (vev e)]]=I (sl 8 bh r,En):=
 D5 (fun n x y hx hy=>zet hx hy) h
def DV (s:ql)(t:qj)(x:qe):Option qe:=jx (f191 x.uses s t) fun v=>I { x with uses:=v.1 }
theorem jrp {b0 b1 b2 b3:qn}{l:List qe}{i:Nat}{x y:qe}{s:ql}{t:qj}(hx:l[i]?=I x)(h:DV s t x=I y):
  ∃cs,zg pr (X pr) 190 [.ptr 5 (i*8),.ptr 4 0,.ah (.fn (.func 187) [] [.ah (z8 t)])] [b0,b1,b2,b3,.cells [(.str s.k,En),(Iv s.n,En)],.cells (bz bh l)]=I (.aC [],En,[b0,b1,b2,b3,.cells [(.str s.k,En),(Iv s.n,En)],.cells cs])∧cs.map (·.1)=yu bh (l.set i y):=by
 unfold DV at h
 have ld:y9 (bz bh l) (i*8+3) 1=I [sl 2 aS x.uses]:=uy (o:=3) dE.len hx (by decide)
 have hb:i*8+3<(bz bh l).length:=HR dE (o:=3) hx (by decide)
 obtain⟨v,hv,h⟩:=jy h
 cases h
 have w:jz pr (X pr) 191 [sl 2 aS x.uses,aN s,.fn (.func 187) [] [.ah (aL t)]]=I (sl 2 aS v.1,v.2):=zct hv
 rcases v with⟨v,o⟩
 have hy:(bh { x with uses:=v }).flat=(bh x).flat.set 3 (sl 2 aS v):=rfl
 have st:yi (bz bh l) (i*8+3) [sl 2 aS v]=I (bz bh (l.set i { x with uses:=v })):=lS (o:=3) dE.len hx (E3 rfl) (by simp only[Gm,go_sem,E4]) rfl
 cases o with
 |true=>exact⟨_,by rw[zh (show pr.bL 190=I mZ from rfl) (by simp)];simp only[go_sem,seval,mZ,z8,ld,w,hb]<;>rfl,D6 dE (o:=3) hx (by decide) hy E1⟩
 |false=>exact⟨_,by rw[zh (show pr.bL 190=I mZ from rfl) (by simp)];simp only[go_sem,seval,mZ,z8,ld,w,st]<;>rfl,kx⟩
end Go.Z
namespace Go.Z
open Go Go.Abs Go.W
def Ap {α:Type}(l:Option (List α))(i:Int)(x:α):Option (Option (List α)):=
 if(l.getD []).length≤1073741824∧0≤i∧i<(l.getD []).length then I (I ((l.getD []).set i.toNat x))else E6
theorem Wd {α:Type}{l:Option (List α)}{i:Int}{x:α}{r}(h:Ap l i x=I r):∃(n:Nat),i=(n:Int)∧(l.getD []).length≤1073741824∧n<(l.getD []).length∧r=I ((l.getD []).set n x):=by
 unfold Ap at h
 split at h
 ·rename_i hc
  cases h
  exact⟨i.toNat,(Int.toNat_of_nonneg hc.2.1).symm,hc.1,by omega,rfl⟩
 ·cases h
section
variable {α:Type}{f:α→qa}{sz:Nat}{h:j8}
theorem q8f {l:List α}:cellsOf ((l.map f).flatMap qa.flat)=bz f l:=rfl
theorem Wf (E:ou f sz){n0 r b t:Nat}{l:Option (List α)}(hl:(l.getD []).length≤1073741824)(hb:b≤4096){h':j8}(hh:aJ n0 h r (.cells (bz f (l.getD [])))=I h'):AV n0 r sz b h (I t) (I (.list En sz [])) (I (sl sz f l))=I ⟨.ms (n0+r) 0 (l.getD []).length,En,I t,h'⟩:=by
 have hs:kl sz (sl sz f l)=I ((l.getD []).map f):=Uy
 have h1:0<sz:=by have:=E.big;omega
 simp only[AV]
 rw[hs]
 simp only[Option.isSome_some,Nat.beq_refl,E4,cT,Gl,Gk hl,Gk hb,Nat.blt_eq.mpr h1,q8f,hh]
theorem Wg (E:ou f sz){l:List α}{i:Nat}{y:α}(hi:i<l.length):yi (bz f l) (i*sz) (f y).flat=I (bz f (l.set i y)):=by
 have hx:l[i]?=I l[i]:=List.getElem?_eq_getElem hi
 have hl:=E.len l[i]
 have hly:=E.len y
 have:=lS (o:=0) (us:=(f y).flat) (y:=y) E.len hx (by omega) (E.sc y) (by rw[List.take_zero,List.nil_append,List.drop_eq_nil_of_le (by omega),List.append_nil])
 rw[Nat.add_zero]at this
 exact this
end
def f206 (a0:qc)(a1:Int)(x:qj):Option qc:=jx (Ap a0.au a1 x) fun v=>I { a0 with au:=v }
theorem jqr {a0:qc}{a1:Int}{x:qj}{r}(h:f206 a0 a1 x=I r):jz pr (X pr) 206 [aR a0,Iv a1,aL x]=I (aR r,En):=by
 obtain⟨v,hv,h⟩:=jy h
 cases h
 obtain⟨n,rfl,hl,hi,rfl⟩:=Wd hv
 have ap:AV 2 0 5 56 [kR a0.day a0.au a0.ae a0.units,kZ,.hole] (I 7) (I (.list En 5 [])) (I (sl 5 z8 a0.au))=I ⟨.ms 2 0 (a0.au.getD []).length,En,I 7,[kR a0.day a0.au a0.ae a0.units,kZ,.cells (bz z8 (a0.au.getD []))]⟩:=by apply Wf fN<;>first|exact hl|rfl|decide
 have st:yi (bz z8 (a0.au.getD [])) (n*5) [.str x.name,.str x.kind,Iv x.count,Iv x.left,.bool x.held]=I (bz z8 ((a0.au.getD []).set n x)):=Wg (y:=x) fN hi
 have this:zg pr (X pr) 206 [aR a0,Iv (n:Int),aL x] []=I (.agg [Iv a0.day,.ms 2 0 (a0.au.getD []).length,sl 4 zt a0.ae,sl 8 bh a0.units],En,[.cells [(Iv a0.day,En),(.ms 2 0 (a0.au.getD []).length,En),(sl 4 zt a0.ae,En),(sl 8 bh a0.units,En)],.cells [(Iv a0.day,En),(.ms 2 0 (a0.au.getD []).length,En),(sl 4 zt a0.ae,En),(sl 8 bh a0.units,En)],.cells (bz z8 ((a0.au.getD []).set n x))]):=by
  rw[zh (show pr.bL 206=I rU from rfl) (by simp)]
  simp only[go_sem,seval,rU,ap,uO hi,st]<;>rfl
 have fz:fT [.cells [(Iv a0.day,En),(.ms 2 0 (a0.au.getD []).length,En),(sl 4 zt a0.ae,En),(sl 8 bh a0.units,En)],.cells [(Iv a0.day,En),(.ms 2 0 (a0.au.getD []).length,En),(sl 4 zt a0.ae,En),(sl 8 bh a0.units,En)],.cells (bz z8 ((a0.au.getD []).set n x))] (.ms 2 0 (a0.au.getD []).length)=I (sl 5 z8 (I ((a0.au.getD []).set n x))):=by
  have:=uN fN (l:=(a0.au.getD []).set n x) (by rw[E2];omega) (cs:=bz z8 ((a0.au.getD []).set n x)) kx
  rw[E2]at this
  exact this
 refine ky rfl this (v':=.agg [Iv a0.day,sl 5 z8 (I ((a0.au.getD []).set n x)),sl 4 zt a0.ae,sl 8 bh a0.units]) ?_ (by first|rfl|simp only[go_sem,seval])
 rw[UF]
 simp only[go_sem,seval,fz]<;>rfl
def f205 (a0:qc)(a1:Int)(x:qi):Option qc:=jx (Ap a0.ae a1 x) fun v=>I { a0 with ae:=v }
theorem zd1 {a0:qc}{a1:Int}{x:qi}{r}(h:f205 a0 a1 x=I r):jz pr (X pr) 205 [aR a0,Iv a1,aP x]=I (aR r,En):=by
 obtain⟨v,hv,h⟩:=jy h
 cases h
 obtain⟨n,rfl,hl,hi,rfl⟩:=Wd hv
 have ap:AV 2 0 4 88 [kR a0.day a0.au a0.ae a0.units,kZ,.hole] (I 7) (I (.list En 4 [])) (I (sl 4 zt a0.ae))=I ⟨.ms 2 0 (a0.ae.getD []).length,En,I 7,[kR a0.day a0.au a0.ae a0.units,kZ,.cells (bz zt (a0.ae.getD []))]⟩:=by apply Wf cg<;>first|exact hl|rfl|decide
 have st:yi (bz zt (a0.ae.getD [])) (n*4) [.str x.name,sl 2 aS x.dn,sl 3 z6 x.dt,sl 2 dk x.aH]=I (bz zt ((a0.ae.getD []).set n x)):=Wg (y:=x) cg hi
 have this:zg pr (X pr) 205 [aR a0,Iv (n:Int),aP x] []=I (.agg [Iv a0.day,sl 5 z8 a0.au,.ms 2 0 (a0.ae.getD []).length,sl 8 bh a0.units],En,[.cells [(Iv a0.day,En),(sl 5 z8 a0.au,En),(.ms 2 0 (a0.ae.getD []).length,En),(sl 8 bh a0.units,En)],.cells [(Iv a0.day,En),(sl 5 z8 a0.au,En),(.ms 2 0 (a0.ae.getD []).length,En),(sl 8 bh a0.units,En)],.cells (bz zt ((a0.ae.getD []).set n x))]):=by
  rw[zh (show pr.bL 205=I rV from rfl) (by simp)]
  simp only[go_sem,seval,rV,ap,uO hi,st]<;>rfl
 have fz:fT [.cells [(Iv a0.day,En),(sl 5 z8 a0.au,En),(.ms 2 0 (a0.ae.getD []).length,En),(sl 8 bh a0.units,En)],.cells [(Iv a0.day,En),(sl 5 z8 a0.au,En),(.ms 2 0 (a0.ae.getD []).length,En),(sl 8 bh a0.units,En)],.cells (bz zt ((a0.ae.getD []).set n x))] (.ms 2 0 (a0.ae.getD []).length)=I (sl 4 zt (I ((a0.ae.getD []).set n x))):=by
  have:=uN cg (l:=(a0.ae.getD []).set n x) (by rw[E2];omega) (cs:=bz zt ((a0.ae.getD []).set n x)) kx
  rw[E2]at this
  exact this
 refine ky rfl this (v':=.agg [Iv a0.day,sl 5 z8 a0.au,sl 4 zt (I ((a0.ae.getD []).set n x)),sl 8 bh a0.units]) ?_ (by first|rfl|simp only[go_sem,seval])
 rw[UF]
 simp only[go_sem,seval,fz]<;>rfl
def f209 (a0:qc)(a1:Int)(x:qe):Option qc:=jx (Ap a0.units a1 x) fun v=>I { a0 with units:=v }
theorem Wh {a0:qc}{a1:Int}{x:qe}{r}(h:f209 a0 a1 x=I r):jz pr (X pr) 209 [aR a0,Iv a1,aU x]=I (aR r,En):=by
 obtain⟨v,hv,h⟩:=jy h
 cases h
 obtain⟨n,rfl,hl,hi,rfl⟩:=Wd hv
 have ap:AV 2 0 8 120 [kR a0.day a0.au a0.ae a0.units,kZ,.hole] (I 7) (I (.list En 8 [])) (I (sl 8 bh a0.units))=I ⟨.ms 2 0 (a0.units.getD []).length,En,I 7,[kR a0.day a0.au a0.ae a0.units,kZ,.cells (bz bh (a0.units.getD []))]⟩:=by apply Wf dE<;>first|exact hl|rfl|decide
 have st:yi (bz bh (a0.units.getD [])) (n*8) [.str x.name,.str x.product,Iv x.version,sl 2 aS x.uses,sl 3 z6 x.results,.str x.partner,.bool x.ar,Iv x.ai]=I (bz bh ((a0.units.getD []).set n x)):=Wg (y:=x) dE hi
 have this:zg pr (X pr) 209 [aR a0,Iv (n:Int),aU x] []=I (.agg [Iv a0.day,sl 5 z8 a0.au,sl 4 zt a0.ae,.ms 2 0 (a0.units.getD []).length],En,[.cells [(Iv a0.day,En),(sl 5 z8 a0.au,En),(sl 4 zt a0.ae,En),(.ms 2 0 (a0.units.getD []).length,En)],.cells [(Iv a0.day,En),(sl 5 z8 a0.au,En),(sl 4 zt a0.ae,En),(.ms 2 0 (a0.units.getD []).length,En)],.cells (bz bh ((a0.units.getD []).set n x))]):=by
  rw[zh (show pr.bL 209=I rW from rfl) (by simp)]
  simp only[go_sem,seval,rW,ap,uO hi,st]<;>rfl
 have fz:fT [.cells [(Iv a0.day,En),(sl 5 z8 a0.au,En),(sl 4 zt a0.ae,En),(.ms 2 0 (a0.units.getD []).length,En)],.cells [(Iv a0.day,En),(sl 5 z8 a0.au,En),(sl 4 zt a0.ae,En),(.ms 2 0 (a0.units.getD []).length,En)],.cells (bz bh ((a0.units.getD []).set n x))] (.ms 2 0 (a0.units.getD []).length)=I (sl 8 bh (I ((a0.units.getD []).set n x))):=by
  have:=uN dE (l:=(a0.units.getD []).set n x) (by rw[E2];omega) (cs:=bz bh ((a0.units.getD []).set n x)) kx
  rw[E2]at this
  exact this
 refine ky rfl this (v':=.agg [Iv a0.day,sl 5 z8 a0.au,sl 4 zt a0.ae,sl 8 bh (I ((a0.units.getD []).set n x))]) ?_ (by first|rfl|simp only[go_sem,seval])
 rw[UF]
 simp only[go_sem,seval,fz]<;>rfl
end Go.Z
namespace Go.Z
open Go Go.Abs Go.W
def Aq (a0:Option (List ql))(a1:ql)(s0:(Option (List ql))×Bool×Int×Bool):Option (((Option (List ql))×Bool×Int×Bool)⊕(((Option (List ql))×Bool×Bool×Int))):=
 cond (decide (s0.2.2.1<((a0.getD []).length:Int)))
  (jx (zp (a0.getD []) s0.2.2.1) fun v24=>
  cond (decide (v24.k=a1.k))
   (cond (decide (0<a1.n))
    (cond s0.2.2.2
     (jx (bg s0.1 [a1]) fun fk=>
     I (.inl (fk,E1,j9 .i64 (s0.2.2.1+1),E1)))
     (cond s0.1.isNone
      (jx (bg s0.1 [a1]) fun kM=>
      I (.inl (kM,E1,j9 .i64 (s0.2.2.1+1),E1)))
      (E6)))
    (I (.inl (s0.1,E1,j9 .i64 (s0.2.2.1+1),s0.2.2.2))))
   (cond s0.2.2.2
    (jx (bg s0.1 [v24]) fun vK=>
    I (.inl (vK,s0.2.1,j9 .i64 (s0.2.2.1+1),E1)))
    (cond s0.1.isNone
     (jx (bg s0.1 [v24]) fun rX=>
     I (.inl (rX,s0.2.1,j9 .i64 (s0.2.2.1+1),E1)))
     (E6))))
  (I (.inr (s0.1,s0.2.2.2,s0.2.1,s0.2.2.1)))
def HS (a0:Option (List ql))(a1:ql)(s0:(Option (List ql))×Bool×Int×Bool):qg:=⟨[(0,sl 2 aS a0,En),(3,.ah (aN a1),En),(5,sl 2 aS s0.1,s0.2.2.2),(6,.bool s0.2.1,En),(7,Iv s0.2.2.1,En)],[]⟩
def HT (a0:Option (List ql))(a1:ql)(d:((Option (List ql))×Bool×Bool×Int)):qo×qg:=(.exit 0,⟨[(0,sl 2 aS a0,En),(3,.ah (aN a1),En),(5,sl 2 aS d.1,d.2.1),(6,.bool d.2.2.1,En),(7,Iv d.2.2.2,En),(11,.bool En,En)],[]⟩)
theorem jq0 (a0:Option (List ql))(a1:ql)(s0:(Option (List ql))×Bool×Int×Bool)(r)(h:Aq a0 a1 s0=I r):yo pr HU (HS a0 a1) (HT a0 a1) s0 r:=by
 unfold Aq at h
 repeat' first|(replace h:=jy h;obtain⟨d,g,h⟩:=h;with_reducible first|replace g:=vu g|skip)|(replace h:=j6 h;rcases h with⟨g,h⟩|⟨g,h⟩)|fail
 all_goals (cases h<;>(first|(refine zy ?_;simp only[go_sem,seval,HU,HS,zn,HT, *]<;>rfl)|(refine yh ?_;simp only[go_sem,seval,HU,HS,zn,HT, *]<;>rfl)))
theorem ju4 (a0:Option (List ql))(a1:ql){s0:(Option (List ql))×Bool×Int×Bool}{d}(h:bf (Aq a0 a1) s0=I d):X pr (.loop HU) (HS a0 a1 s0)=I (HT a0 a1 d):=yz (jq0 a0 a1) (fun d hh=>by cases hh) h
def f203 (a0:Option (List ql))(a1:ql):Option ((Option (List ql))×Bool):=
 jx (bf (Aq a0 a1) (E6,En,0,En)) fun d40=>
 cond d40.2.2.1
  (I (d40.1,d40.2.1))
  (cond (decide (0<a1.n))
   (cond d40.2.1
    (jx (bg d40.1 [a1]) fun xQ=>
    I (xQ,E1))
    (cond d40.1.isNone
     (jx (bg d40.1 [a1]) fun HW=>
     I (HW,E1))
     (E6)))
   (I (d40.1,d40.2.1)))
theorem zh8 {a0:Option (List ql)}{a1:ql}{r}(h:f203 a0 a1=I r):jz pr (X pr) 203 [sl 2 aS a0,aN a1]=I (sl 2 aS r.1,r.2):=by
 unfold f203 at h
 refine eU vL ?_
 repeat' first|(replace h:=jy h;obtain⟨d,g,h⟩:=h;with_reducible first|replace g:=vu g|(replace g:=ju4 a0 a1 g;dsimp only[HS,HT,y8]at g h)|skip)|(replace h:=j6 h;rcases h with⟨g,h⟩|⟨g,h⟩)|fail
 all_goals (cases h<;>(simp only[go_sem,seval,vL, *];exact⟨_,rfl⟩))
def Ar (a0:Option (List qk))(a1:qk)(s0:(Option (List qk))×Bool×Int×Bool):Option (((Option (List qk))×Bool×Int×Bool)⊕(((Option (List qk))×Bool×Bool×Int))):=
 cond (decide (s0.2.2.1<((a0.getD []).length:Int)))
  (jx (zp (a0.getD []) s0.2.2.1) fun ea=>
  cond (decide (ea.k=a1.k))
   (cond s0.2.2.2
    (jx (bg s0.1 [a1]) fun eI=>
    I (.inl (eI,E1,j9 .i64 (s0.2.2.1+1),E1)))
    (cond s0.1.isNone
     (jx (bg s0.1 [a1]) fun fk=>
     I (.inl (fk,E1,j9 .i64 (s0.2.2.1+1),E1)))
     (E6)))
   (cond s0.2.2.2
    (jx (bg s0.1 [ea]) fun kM=>
    I (.inl (kM,s0.2.1,j9 .i64 (s0.2.2.1+1),E1)))
    (cond s0.1.isNone
     (jx (bg s0.1 [ea]) fun vK=>
     I (.inl (vK,s0.2.1,j9 .i64 (s0.2.2.1+1),E1)))
     (E6))))
  (I (.inr (s0.1,s0.2.2.2,s0.2.1,s0.2.2.1)))
def HX (a0:Option (List qk))(a1:qk)(s0:(Option (List qk))×Bool×Int×Bool):qg:=⟨[(0,sl 3 z6 a0,En),(3,.ah (aT a1),En),(5,sl 3 z6 s0.1,s0.2.2.2),(6,.bool s0.2.1,En),(7,Iv s0.2.2.1,En)],[]⟩
def HY (a0:Option (List qk))(a1:qk)(d:((Option (List qk))×Bool×Bool×Int)):qo×qg:=(.exit 0,⟨[(0,sl 3 z6 a0,En),(3,.ah (aT a1),En),(5,sl 3 z6 d.1,d.2.1),(6,.bool d.2.2.1,En),(7,Iv d.2.2.2,En),(11,.bool En,En)],[]⟩)
theorem jto (a0:Option (List qk))(a1:qk)(s0:(Option (List qk))×Bool×Int×Bool)(r)(h:Ar a0 a1 s0=I r):yo pr HZ (HX a0 a1) (HY a0 a1) s0 r:=by
 unfold Ar at h
 repeat' first|(replace h:=jy h;obtain⟨d,g,h⟩:=h;with_reducible first|replace g:=xf g|skip)|(replace h:=j6 h;rcases h with⟨g,h⟩|⟨g,h⟩)|fail
 all_goals (cases h<;>(first|(refine zy ?_;simp only[go_sem,seval,HZ,HX,zn,HY, *]<;>rfl)|(refine yh ?_;simp only[go_sem,seval,HZ,HX,zn,HY, *]<;>rfl)))
theorem jp7 (a0:Option (List qk))(a1:qk){s0:(Option (List qk))×Bool×Int×Bool}{d}(h:bf (Ar a0 a1) s0=I d):X pr (.loop HZ) (HX a0 a1 s0)=I (HY a0 a1 d):=yz (jto a0 a1) (fun d hh=>by cases hh) h
def f204 (a0:Option (List qk))(a1:qk):Option ((Option (List qk))×Bool):=
 jx (bf (Ar a0 a1) (E6,En,0,En)) fun d37=>
 cond d37.2.2.1
  (I (d37.1,d37.2.1))
  (cond d37.2.1
   (jx (bg d37.1 [a1]) fun vM=>
   I (vM,E1))
   (cond d37.1.isNone
    (jx (bg d37.1 [a1]) fun oz=>
    I (oz,E1))
    (E6)))
theorem zb7 {a0:Option (List qk)}{a1:qk}{r}(h:f204 a0 a1=I r):jz pr (X pr) 204 [sl 3 z6 a0,aT a1]=I (sl 3 z6 r.1,r.2):=by
 unfold f204 at h
 refine eU vN ?_
 repeat' first|(replace h:=jy h;obtain⟨d,g,h⟩:=h;with_reducible first|replace g:=xf g|(replace g:=jp7 a0 a1 g;dsimp only[HX,HY,y8]at g h)|skip)|(replace h:=j6 h;rcases h with⟨g,h⟩|⟨g,h⟩)|fail
 all_goals (cases h<;>(simp only[go_sem,seval,vN, *];exact⟨_,rfl⟩))
def As (a0:Option (List ql))(a1:List UInt8)(a2:Int)(s0:(Option (List ql))×Bool×Int×Bool):Option (((Option (List ql))×Bool×Int×Bool)⊕(((Option (List ql))×Bool×Bool×Int))):=
 cond (decide (s0.2.2.1<((a0.getD []).length:Int)))
  (jx (zp (a0.getD []) s0.2.2.1) fun ea=>
  cond (decide (ea.k=a1))
   (cond s0.2.2.2
    (jx (bg s0.1 [⟨ea.k,j9 .i64 (ea.n+a2)⟩]) fun eI=>
    I (.inl (eI,E1,j9 .i64 (s0.2.2.1+1),E1)))
    (cond s0.1.isNone
     (jx (bg s0.1 [⟨ea.k,j9 .i64 (ea.n+a2)⟩]) fun fk=>
     I (.inl (fk,E1,j9 .i64 (s0.2.2.1+1),E1)))
     (E6)))
   (cond s0.2.2.2
    (jx (bg s0.1 [ea]) fun kM=>
    I (.inl (kM,s0.2.1,j9 .i64 (s0.2.2.1+1),E1)))
    (cond s0.1.isNone
     (jx (bg s0.1 [ea]) fun vK=>
     I (.inl (vK,s0.2.1,j9 .i64 (s0.2.2.1+1),E1)))
     (E6))))
  (I (.inr (s0.1,s0.2.2.2,s0.2.1,s0.2.2.1)))
def AZ (a0:Option (List ql))(a1:List UInt8)(a2:Int)(s0:(Option (List ql))×Bool×Int×Bool):qg:=⟨[(0,sl 2 aS a0,En),(1,.str a1,En),(2,Iv a2,En),(7,sl 2 aS s0.1,s0.2.2.2),(8,.bool s0.2.1,En),(9,Iv s0.2.2.1,En)],[]⟩
def H0 (a0:Option (List ql))(a1:List UInt8)(a2:Int)(d:((Option (List ql))×Bool×Bool×Int)):qo×qg:=(.exit 0,⟨[(0,sl 2 aS a0,En),(1,.str a1,En),(2,Iv a2,En),(7,sl 2 aS d.1,d.2.1),(8,.bool d.2.2.1,En),(9,Iv d.2.2.2,En),(14,.bool En,En)],[]⟩)
theorem jrg (a0:Option (List ql))(a1:List UInt8)(a2:Int)(s0:(Option (List ql))×Bool×Int×Bool)(r)(h:As a0 a1 a2 s0=I r):yo pr H2 (AZ a0 a1 a2) (H0 a0 a1 a2) s0 r:=by
 unfold As at h
 repeat' first|(replace h:=jy h;obtain⟨d,g,h⟩:=h;with_reducible first|replace g:=vu g|skip)|(replace h:=j6 h;rcases h with⟨g,h⟩|⟨g,h⟩)|fail
 all_goals (cases h<;>(first|(refine zy ?_;simp only[go_sem,seval,H2,AZ,zn,H0, *]<;>rfl)|(refine q6x ?_ rfl (by first|simp only[go_sem,seval,AZ]|rfl) (by first|simp only[go_sem,seval,AZ]|rfl);simp only[go_sem,seval,H2,AZ,zn,H0, *];exact⟨_,rfl⟩)))
theorem jq3 (a0:Option (List ql))(a1:List UInt8)(a2:Int){s0:(Option (List ql))×Bool×Int×Bool}{d}(h:bf (As a0 a1 a2) s0=I d):X pr (.loop H2) (AZ a0 a1 a2 s0)=I (H0 a0 a1 a2 d):=yz (jrg a0 a1 a2) (fun d hh=>by cases hh) h
def f252 (a0:Option (List ql))(a1:List UInt8)(a2:Int):Option ((Option (List ql))×Bool):=
 jx (bf (As a0 a1 a2) (E6,En,0,En)) fun d37=>
 cond d37.2.2.1
  (I (d37.1,d37.2.1))
  (cond d37.2.1
   (jx (bg d37.1 [⟨a1,a2⟩]) fun vM=>
   I (vM,E1))
   (cond d37.1.isNone
    (jx (bg d37.1 [⟨a1,a2⟩]) fun oz=>
    I (oz,E1))
    (E6)))
theorem zdw {a0:Option (List ql)}{a1:List UInt8}{a2:Int}{r}(h:f252 a0 a1 a2=I r):jz pr (X pr) 252 [sl 2 aS a0,.str a1,Iv a2]=I (sl 2 aS r.1,r.2):=by
 unfold f252 at h
 refine eU vO ?_
 repeat' first|(replace h:=jy h;obtain⟨d,g,h⟩:=h;with_reducible first|replace g:=vu g|(replace g:=jq3 a0 a1 a2 g;dsimp only[AZ,H0,y8]at g h)|skip)|(replace h:=j6 h;rcases h with⟨g,h⟩|⟨g,h⟩)|fail
 all_goals (cases h<;>(simp only[go_sem,seval,vO, *];exact⟨_,rfl⟩))
def f124 (a0:qc)(a1:qm):Option (qc×Int):=
 jx (zp (a1.names.getD []) 0) fun v1=>
 cond (decide (a1.kind=([108,111,116]:List UInt8)))
  (jx (f28 a0 v1) fun v4=>
  cond (decide (0≤v4))
   (I (a0,9))
   (jx (zp (a1.values.getD []) 1) fun v7=>
   jx (f59 v7 1 10000) fun v9=>
   cond v9
    (I (a0,3))
    (cond (decide (64≤((a0.au.getD []).length:Int)))
     (I (a0,5))
     (jx (bg (I []) (a0.au.getD [])) fun eb=>
     jx (zp (a1.names.getD []) 1) fun eY=>
     jx (bg eb [⟨v1,eY,v7,v7,En⟩]) fun fQ=>
     I (⟨a0.day,fQ,a0.ae,a0.units⟩,0)))))
  (cond (decide (a1.kind=([112,114,111,100,117,99,116]:List UInt8)))
   (jx (f144 a0 v1) fun v20=>
   cond (decide (0≤v20))
    (I (a0,9))
    (cond (decide (16≤((a0.ae.getD []).length:Int)))
     (I (a0,5))
     (jx (bg (I []) (a0.ae.getD [])) fun v24=>
     jx (bg v24 [⟨v1,E6,E6,E6⟩]) fun eI=>
     I (⟨a0.day,a0.au,eI,a0.units⟩,0))))
   (jx (zp (a1.names.getD []) 1) fun v28=>
   jx (f144 a0 v28) fun v30=>
   cond (decide (v30<0))
    (I (a0,10))
    (jx (f27 a0 v1) fun vP=>
    cond (decide (0≤vP))
     (I (a0,9))
     (jx (zp (a0.ae.getD []) v30) fun xR=>
     cond (decide (((xR.aH.getD []).length:Int)=0))
      (I (a0,32))
      (cond (decide (256≤((a0.units.getD []).length:Int)))
       (I (a0,5))
       (jx (bg (I []) (a0.units.getD [])) fun v40=>
       jx (bg v40 [⟨v1,v28,((xR.aH.getD []).length:Int),E6,E6,[],En,0⟩]) fun Wi=>
       I (⟨a0.day,a0.au,a0.ae,Wi⟩,0)))))))
theorem zco {a0:qc}{a1:qm}{r}(h:f124 a0 a1=I r):jz pr (X pr) 124 [aR a0,aE a1]=I (.aC [aR r.1,Iv r.2],En):=by
 unfold f124 at h
 refine y7 vQ ?_
 repeat' first|(replace h:=jy h;obtain⟨d,g,h⟩:=h; (with_reducible first|replace g:=H3 g|replace g:=NT g|replace g:=NU g|replace g:=Wj g|replace g:=Ni g|replace g:=UX g|replace g:=UY g|skip);try dsimp only[y8,ly,List.map,kw,qag,z8,zt,bh,y6,vev,aS,z6,dk,aE,aR,aU,aL,aP,aD]at g)|(replace h:=j6 h;rcases h with⟨g,h⟩|⟨g,h⟩)|fail
 all_goals (cases h<;>(simp only[go_sem,seval,vQ,zn,lT, *];exact⟨_,rfl⟩))
end Go.Z
end
