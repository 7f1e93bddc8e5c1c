/- Chapter 10. -/
import Derived.Test.YtfopaakmgogpiaaGreatDoorV0
import Derived.Test.YtfopaakmgogpiaaGreatDoorW8
import Derived.Test.YtfopaakmgogpiaaGreatDoorW3
set_option linter.unusedVariables false
set_option linter.unusedSimpArgs false
set_option maxRecDepth 100000
set_option maxHeartbeats 4000000
noncomputable section
open Option renaming some→I,none→Eu
open Bool renaming false→Eh,true→Ek,and_self→Ep
open List renaming length_set→En,length_map→Ga,all→Gb
open Nat renaming le_of_ble_eq_true→Eo,ble_eq_true_of_le→Ev
namespace Go.Z
open Go Go.Abs Go.W
theorem Fq {α:Type}{f:α→qa}{sz}(E:oR f sz){l i o x y u}(hx:l[i]?=I x)(ho:o<sz)(hy:(f y).flat=(f x).flat.set o u)(w:Bool):((bA f l).set (i*sz+o) (u,w)).map (·.1)=yw f (l.set i y):=by
 have h:=congrArg (List.map (·.1)) (q6w E.len hx ho hy)
 rw[List.map_set]at h ⊢
 rw[show(bA f (l.set i y)).map (·.1)=yw f (l.set i y)from k9]at h
 exact h
theorem Jy {α:Type}{f:α→qa}{sz}(E:oR f sz){l i o x}(hx:l[i]?=I x)(ho:o<sz):i*sz+o<(bA f l).length:=by
 have h:=(ER (n:=1) (o:=o) E.len hx (by omega)).2
 simp only[bA,cellsOf,Ga]
 omega
def Iz (c:Int)(nm k:List UInt8)(x:qq):Option qq:=cond (decide (c=0))
 (jw (f171 x.dn nm) fun v=>I { x with dn:=v.1 })
 (jw (f173 x.dn ⟨k,c⟩ nm) fun v=>I { x with dn:=v.1 })
theorem zh4 {l:List qq}{i:Nat}{x y c nm k}(hx:l[i]?=I x)(h:Iz c nm k x=I y):
  ∃cs,ze pr (X pr) 170 [.ptr 0 (i*4+1),.ah (Iv c),.ah (.fn (.func 167) [] [.ah (.str nm)]),.ah (.str k)] [.cells (bA zm l)]=I (.ay [],Eh,[.cells cs])∧cs.map (·.1)=yw zm (l.set i y):=by
 unfold Iz at h
 have ld:kf (bA zm l) (i*4+1) 1=I [sl 2 aV x.dn]:=vg (o:=1) cj.len hx (by decide)
 have hb:=Jy cj (o:=1) hx (by decide)
 rcases jz h with⟨h1,h⟩|⟨h1,h⟩
 ·obtain⟨v,hv,h⟩:=jx h
  cases h
  have w:=zfk [.cells (bA zm l)] hv
  rcases v with⟨v,o⟩
  have hy:(zm { x with dn:=v }).flat=(zm x).flat.set 1 (sl 2 aV v):=rfl
  have st:yj (bA zm l) (i*4+1) [sl 2 aV v]=I (bA zm (l.set i { x with dn:=v })):=mc (o:=1) cj.len hx (Eo rfl) (by simp only[Gb,go_sem,Ep]) rfl
  cases o with
  |true=>exact⟨_,by rw[zf (show pr.bB 170=I iy from rfl) (by simp)];simp only[go_sem,seval,iy,h1,ld,w,hb]<;>rfl,Fq cj hx (by decide) hy Ek⟩
  |false=>exact⟨_,by rw[zf (show pr.bB 170=I iy from rfl) (by simp)];simp only[go_sem,seval,iy,h1,ld,w,st]<;>rfl,k9⟩
 ·obtain⟨v,hv,h⟩:=jx h
  cases h
  have w:jy pr (X pr) 173 [sl 2 aV x.dn,.agg [.str k,Iv c],.fn (.func 167) [] [.ah (.str nm)]]=I (sl 2 aV v.1,v.2):=ziq hv
  rcases v with⟨v,o⟩
  have hy:(zm { x with dn:=v }).flat=(zm x).flat.set 1 (sl 2 aV v):=rfl
  have st:yj (bA zm l) (i*4+1) [sl 2 aV v]=I (bA zm (l.set i { x with dn:=v })):=mc (o:=1) cj.len hx (Eo rfl) (by simp only[Gb,go_sem,Ep]) rfl
  cases o with
  |true=>exact⟨_,by rw[zf (show pr.bB 170=I iy from rfl) (by simp)];simp only[go_sem,seval,iy,h1,ld,w,hb]<;>rfl,Fq cj hx (by decide) hy Ek⟩
  |false=>exact⟨_,by rw[zf (show pr.bB 170=I iy from rfl) (by simp)];simp only[go_sem,seval,iy,h1,ld,w,st]<;>rfl,k9⟩
def WO (l:Option (List qq))(i:Int)(c:Int)(nm k:List UInt8):Option (Option (List qq)):=fQ l i (Iz c nm k)
theorem jg5 {l i c nm k r}(h:WO l i c nm k=I r):jy pr (X pr) 178 [sl 4 zm l,Iv i,.fn (.func 236) [] [.ah (.fn (.func 170) [] [.ah (Iv c),.ah (.fn (.func 167) [] [.ah (.str nm)]),.ah (.str k)])]]=I (sl 4 zm r,Eh):=by
 refine XJ (fun n x y hx hy=>?_) h
 obtain⟨cs,h1,h2⟩:=zh4 hx hy
 exact⟨cs,by rw[zf (show pr.bB 236=I nw from rfl) (by simp)];simp only[go_sem,seval,nw,h1]<;>rfl,h2⟩
def IA (t s:qj)(x:qq):Option qq:=jw (f177 x.dt t s) fun v=>I { x with dt:=v.1 }
theorem zhr {l:List qq}{i:Nat}{x y t s}(hx:l[i]?=I x)(h:IA t s x=I y):
  ∃cs,ze pr (X pr) 176 [.ptr 0 (i*4+1),.ah (zx t),.ah (.fn (.func 174) [] [.ah (zx s)])] [.cells (bA zm l)]=I (.ay [],Eh,[.cells cs])∧cs.map (·.1)=yw zm (l.set i y):=by
 unfold IA at h
 have ld:kf (bA zm l) (i*4+1+1) 1=I [sl 3 zx x.dt]:=vg (o:=2) cj.len hx (by decide)
 have hb:i*4+1+1<(bA zm l).length:=Jy cj (o:=2) hx (by decide)
 obtain⟨v,hv,h⟩:=jx h
 cases h
 have w:jy pr (X pr) 177 [sl 3 zx x.dt,aT t,.fn (.func 174) [] [.ah (aT s)]]=I (sl 3 zx v.1,v.2):=zhd hv
 rcases v with⟨v,o⟩
 have hy:(zm { x with dt:=v }).flat=(zm x).flat.set 2 (sl 3 zx v):=rfl
 have st:yj (bA zm l) (i*4+1+1) [sl 3 zx v]=I (bA zm (l.set i { x with dt:=v })):=mc (o:=2) cj.len hx (Eo rfl) (by simp only[Gb,go_sem,Ep]) rfl
 cases o with
 |true=>exact⟨_,by rw[zf (show pr.bB 176=I nx from rfl) (by simp)];simp only[go_sem,seval,nx,zx,ld,w,hb]<;>rfl,Fq cj (o:=2) hx (by decide) hy Ek⟩
 |false=>exact⟨_,by rw[zf (show pr.bB 176=I nx from rfl) (by simp)];simp only[go_sem,seval,nx,zx,ld,w,st]<;>rfl,k9⟩
def WQ (l:Option (List qq))(i:Int)(t s:qj):Option (Option (List qq)):=fQ l i (IA t s)
theorem jkb {l i t s r}(h:WQ l i t s=I r):jy pr (X pr) 178 [sl 4 zm l,Iv i,.fn (.func 236) [] [.ah (.fn (.func 176) [] [.ah (zx t),.ah (.fn (.func 174) [] [.ah (zx s)])])]]=I (sl 4 zm r,Eh):=by
 refine XJ (fun n x y hx hy=>?_) h
 obtain⟨cs,h1,h2⟩:=zhr hx hy
 simp only[jed]at h1
 exact⟨cs,by rw[zf (show pr.bB 236=I nw from rfl) (by simp)];simp only[go_sem,seval,nw,h1]<;>rfl,h2⟩
def O6 (x:qq):Option qq:=jw (f181 ⟨x.dn,x.dt⟩) fun d=>jw (f180 x.aO d) fun v=>I { x with aO:=v }
theorem zgc {l:List qq}{i:Nat}{x y}(hx:l[i]?=I x)(h:O6 x=I y):
  ∃cs,ze pr (X pr) 179 [.ptr 0 (i*4)] [.cells (bA zm l)]=I (.ay [],Eh,[.cells cs])∧cs.map (·.1)=yw zm (l.set i y):=by
 unfold O6 at h
 have ld:kf (bA zm l) (i*4+3) 1=I [sl 2 db x.aO]:=vg (o:=3) cj.len hx (by decide)
 have XO:kf (bA zm l) (i*4+1) 2=I [sl 2 aV x.dn,sl 3 zx x.dt]:=vg (o:=1) cj.len hx (by decide)
 have hb:i*4+3<(bA zm l).length:=Jy cj (o:=3) hx (by decide)
 obtain⟨d,hd,h⟩:=jx h
 obtain⟨v,hv,h⟩:=jx h
 cases h
 have w:jy pr (X pr) 181 [.agg [sl 2 aV x.dn,sl 3 zx x.dt]]=I (aD d,Eh):=zbu hd
 have w2:jy pr (X pr) 180 [sl 2 db x.aO,aD d]=I (sl 2 db v,Ek):=zj6 hv
 have hy:(zm { x with aO:=v }).flat=(zm x).flat.set 3 (sl 2 db v):=rfl
 exact⟨_,by rw[zf (show pr.bB 179=I sK from rfl) (by simp)];simp only[go_sem,seval,sK,ld,XO,w,w2,hb]<;>rfl,Fq cj (o:=3) hx (by decide) hy Ek⟩
def O5 (l:Option (List qq))(i:Int):Option (Option (List qq)):=fQ l i O6
theorem jje {l i r}(h:O5 l i=I r):jy pr (X pr) 178 [sl 4 zm l,Iv i,.fn (.func 179) [] []]=I (sl 4 zm r,Eh):=
 XJ (fun n x y hx hy=>zgc hx hy) h
def O7 (e:ql)(x:qf):Option qf:=jw (zn (e.names.getD []) 1) fun n=>jw (zn (e.values.getD []) 1) fun b=>jw (f194 x.results ⟨n,x.version,b⟩) fun v=>I { x with results:=v }
theorem zj7 {l:List qf}{i:Nat}{x y e}(hx:l[i]?=I x)(h:O7 e x=I y):
  ∃cs,ze pr (X pr) 193 [.ptr 0 (i*8),.ah (vev e)] [.cells (bA aQ l)]=I (.ay [],Eh,[.cells cs])∧cs.map (·.1)=yw aQ (l.set i y):=by
 unfold O7 at h
 have ld:kf (bA aQ l) (i*8+4) 1=I [sl 3 zx x.results]:=vg (o:=4) dJ.len hx (by decide)
 have XO:kf (bA aQ l) (i*8+2) 1=I [Iv x.version]:=vg (o:=2) dJ.len hx (by decide)
 have hb:i*8+4<(bA aQ l).length:=Jy dJ (o:=4) hx (by decide)
 obtain⟨n,hn,h⟩:=jx h
 obtain⟨b,EC,h⟩:=jx h
 obtain⟨v,hv,h⟩:=jx h
 cases h
 have w:jy pr (X pr) 194 [sl 3 zx x.results,.agg [.str n,Iv x.version,Iv b]]=I (sl 3 zx v,Ek):=zcb hv
 have hy:(aQ { x with results:=v }).flat=(aQ x).flat.set 4 (sl 3 zx v):=rfl
 exact⟨_,by rw[zf (show pr.bB 193=I sL from rfl) (by simp)];simp only[go_sem,seval,sL,vev,yx hn,yx EC,ld,XO,w,hb]<;>rfl,Fq dJ (o:=4) hx (by decide) hy Ek⟩
def WW (l:Option (List qf))(i:Int)(e:ql):Option (Option (List qf)):=fQ l i (O7 e)
theorem jfr {l i e r}(h:WW l i e=I r):jy pr (X pr) 189 [sl 8 aQ l,Iv i,.fn (.func 193) [] [.ah (vev e)]]=I (sl 8 aQ r,Eh):=
 Fp (fun n x y hx hy=>zj7 hx hy) h
def E9 (s:qk)(t:qm)(x:qf):Option qf:=jw (f191 x.uses s t) fun v=>I { x with uses:=v.1 }
theorem jrl {b0 b1 b2 b3:qn}{l:List qf}{i x y s t}(hx:l[i]?=I x)(h:E9 s t x=I y):
  ∃cs,ze pr (X pr) 190 [.ptr 5 (i*8),.ptr 4 0,.ah (.fn (.func 187) [] [.ah (zw t)])] [b0,b1,b2,b3,.cells [(.str s.k,Eh),(Iv s.n,Eh)],.cells (bA aQ l)]=I (.ay [],Eh,[b0,b1,b2,b3,.cells [(.str s.k,Eh),(Iv s.n,Eh)],.cells cs])∧cs.map (·.1)=yw aQ (l.set i y):=by
 unfold E9 at h
 have ld:kf (bA aQ l) (i*8+3) 1=I [sl 2 aV x.uses]:=vg (o:=3) dJ.len hx (by decide)
 have hb:i*8+3<(bA aQ l).length:=Jy dJ (o:=3) hx (by decide)
 obtain⟨v,hv,h⟩:=jx h
 cases h
 have w:jy pr (X pr) 191 [sl 2 aV x.uses,aN s,.fn (.func 187) [] [.ah (aL t)]]=I (sl 2 aV v.1,v.2):=zjs hv
 rcases v with⟨v,o⟩
 have hy:(aQ { x with uses:=v }).flat=(aQ x).flat.set 3 (sl 2 aV v):=rfl
 have st:yj (bA aQ l) (i*8+3) [sl 2 aV v]=I (bA aQ (l.set i { x with uses:=v })):=mc (o:=3) dJ.len hx (Eo rfl) (by simp only[Gb,go_sem,Ep]) rfl
 cases o with
 |true=>exact⟨_,by rw[zf (show pr.bB 190=I ny from rfl) (by simp)];simp only[go_sem,seval,ny,zw,ld,w,hb]<;>rfl,Fq dJ (o:=3) hx (by decide) hy Ek⟩
 |false=>exact⟨_,by rw[zf (show pr.bB 190=I ny from rfl) (by simp)];simp only[go_sem,seval,ny,zw,ld,w,st]<;>rfl,k9⟩
end Go.Z
namespace Go.Z
open Go Go.Abs Go.W
def Bm {α:Type}(l:Option (List α))(i:Int)(x:α):Option (Option (List α)):=
 if(l.getD []).length≤1073741824∧0≤i∧i<(l.getD []).length then I (I ((l.getD []).set i.toNat x))else Eu
theorem XP {α:Type}{l:Option (List α)}{i x r}(h:Bm l i x=I r):∃(n:Nat),i=(n:Int)∧(l.getD []).length≤1073741824∧n<(l.getD []).length∧r=I ((l.getD []).set n x):=by
 unfold Bm at h
 split at h
 ·rename_i hc
  cases h
  exact⟨i.toNat,(Int.toNat_of_nonneg hc.2.1).symm,hc.1,by omega,rfl⟩
 ·cases h
section
variable {α:Type}{f:α→qa}{sz:Nat}{h:za}
theorem q8o {l}:cellsOf ((l.map f).flatMap qa.flat)=bA f l:=rfl
theorem XQ (E:oR f sz){n0 r b t l}(hl:(l.getD []).length≤1073741824)(hb:b≤4096){h'}(hh:aF n0 h r (.cells (bA f (l.getD [])))=I h'):BK n0 r sz b h (I t) (I (.list Eh sz [])) (I (sl sz f l))=I ⟨.ms (n0+r) 0 (l.getD []).length,Eh,I t,h'⟩:=by
 have hs:ku sz (sl sz f l)=I ((l.getD []).map f):=Wa
 have h1:0<sz:=by have:=E.big;omega
 simp only[BK]
 rw[hs]
 simp only[Option.isSome_some,Nat.beq_refl,Ep,cT,Ga,Ev hl,Ev hb,Nat.blt_eq.mpr h1,q8o,hh]
theorem XR (E:oR f sz){l i y}(hi:i<l.length):yj (bA f l) (i*sz) (f y).flat=I (bA f (l.set i y)):=by
 have hx:l[i]?=I l[i]:=List.getElem?_eq_getElem hi
 have hl:=E.len l[i]
 have hly:=E.len y
 have:=mc (o:=0) (us:=(f y).flat) (y:=y) E.len hx (by omega) (E.sc y) (by rw[List.take_zero,List.nil_append,List.drop_eq_nil_of_le (by omega),List.append_nil])
 rw[Nat.add_zero]at this
 exact this
end
def f206 (a0:qc)(a1:Int)(x:qm):Option qc:=jw (Bm a0.ar a1 x) fun v=>I { a0 with ar:=v }
theorem jrf {a0:qc}{a1:Int}{x r}(h:f206 a0 a1 x=I r):jy pr (X pr) 206 [aR a0,Iv a1,aL x]=I (aR r,Eh):=by
 obtain⟨v,hv,h⟩:=jx h
 cases h
 obtain⟨n,rfl,hl,hi,rfl⟩:=XP hv
 have ap:BK 2 0 5 56 [kR a0.day a0.ar a0.ae a0.units,kZ,.hole] (I 7) (I (.list Eh 5 [])) (I (sl 5 zw a0.ar))=I ⟨.ms 2 0 (a0.ar.getD []).length,Eh,I 7,[kR a0.day a0.ar a0.ae a0.units,kZ,.cells (bA zw (a0.ar.getD []))]⟩:=by apply XQ fS<;>first|exact hl|rfl|decide
 have st:yj (bA zw (a0.ar.getD [])) (n*5) [.str x.name,.str x.kind,Iv x.count,Iv x.left,.bool x.held]=I (bA zw ((a0.ar.getD []).set n x)):=XR (y:=x) fS hi
 have this:ze pr (X pr) 206 [aR a0,Iv (n:Int),aL x] []=I (.agg [Iv a0.day,.ms 2 0 (a0.ar.getD []).length,sl 4 zm a0.ae,sl 8 aQ a0.units],Eh,[.cells [(Iv a0.day,Eh),(.ms 2 0 (a0.ar.getD []).length,Eh),(sl 4 zm a0.ae,Eh),(sl 8 aQ a0.units,Eh)],.cells [(Iv a0.day,Eh),(.ms 2 0 (a0.ar.getD []).length,Eh),(sl 4 zm a0.ae,Eh),(sl 8 aQ a0.units,Eh)],.cells (bA zw ((a0.ar.getD []).set n x))]):=by
  rw[zf (show pr.bB 206=I sM from rfl) (by simp)]
  simp only[go_sem,seval,sM,ap,vC hi,st]<;>rfl
 have fz:iH [.cells [(Iv a0.day,Eh),(.ms 2 0 (a0.ar.getD []).length,Eh),(sl 4 zm a0.ae,Eh),(sl 8 aQ a0.units,Eh)],.cells [(Iv a0.day,Eh),(.ms 2 0 (a0.ar.getD []).length,Eh),(sl 4 zm a0.ae,Eh),(sl 8 aQ a0.units,Eh)],.cells (bA zw ((a0.ar.getD []).set n x))] (.ms 2 0 (a0.ar.getD []).length)=I (sl 5 zw (I ((a0.ar.getD []).set n x))):=by
  have:=vB fS (l:=(a0.ar.getD []).set n x) (by rw[En];omega) (cs:=bA zw ((a0.ar.getD []).set n x)) k9
  rw[En]at this
  exact this
 refine kr rfl this (v':=.agg [Iv a0.day,sl 5 zw (I ((a0.ar.getD []).set n x)),sl 4 zm a0.ae,sl 8 aQ a0.units]) ?_ (by first|rfl|simp only[go_sem,seval])
 rw[Wi]
 simp only[go_sem,seval,fz]<;>rfl
def f205 (a0:qc)(a1:Int)(x:qq):Option qc:=jw (Bm a0.ae a1 x) fun v=>I { a0 with ae:=v }
theorem zco {a0:qc}{a1:Int}{x r}(h:f205 a0 a1 x=I r):jy pr (X pr) 205 [aR a0,Iv a1,aP x]=I (aR r,Eh):=by
 obtain⟨v,hv,h⟩:=jx h
 cases h
 obtain⟨n,rfl,hl,hi,rfl⟩:=XP hv
 have ap:BK 2 0 4 88 [kR a0.day a0.ar a0.ae a0.units,kZ,.hole] (I 7) (I (.list Eh 4 [])) (I (sl 4 zm a0.ae))=I ⟨.ms 2 0 (a0.ae.getD []).length,Eh,I 7,[kR a0.day a0.ar a0.ae a0.units,kZ,.cells (bA zm (a0.ae.getD []))]⟩:=by apply XQ cj<;>first|exact hl|rfl|decide
 have st:yj (bA zm (a0.ae.getD [])) (n*4) [.str x.name,sl 2 aV x.dn,sl 3 zx x.dt,sl 2 db x.aO]=I (bA zm ((a0.ae.getD []).set n x)):=XR (y:=x) cj hi
 have this:ze pr (X pr) 205 [aR a0,Iv (n:Int),aP x] []=I (.agg [Iv a0.day,sl 5 zw a0.ar,.ms 2 0 (a0.ae.getD []).length,sl 8 aQ a0.units],Eh,[.cells [(Iv a0.day,Eh),(sl 5 zw a0.ar,Eh),(.ms 2 0 (a0.ae.getD []).length,Eh),(sl 8 aQ a0.units,Eh)],.cells [(Iv a0.day,Eh),(sl 5 zw a0.ar,Eh),(.ms 2 0 (a0.ae.getD []).length,Eh),(sl 8 aQ a0.units,Eh)],.cells (bA zm ((a0.ae.getD []).set n x))]):=by
  rw[zf (show pr.bB 205=I sN from rfl) (by simp)]
  simp only[go_sem,seval,sN,ap,vC hi,st]<;>rfl
 have fz:iH [.cells [(Iv a0.day,Eh),(sl 5 zw a0.ar,Eh),(.ms 2 0 (a0.ae.getD []).length,Eh),(sl 8 aQ a0.units,Eh)],.cells [(Iv a0.day,Eh),(sl 5 zw a0.ar,Eh),(.ms 2 0 (a0.ae.getD []).length,Eh),(sl 8 aQ a0.units,Eh)],.cells (bA zm ((a0.ae.getD []).set n x))] (.ms 2 0 (a0.ae.getD []).length)=I (sl 4 zm (I ((a0.ae.getD []).set n x))):=by
  have:=vB cj (l:=(a0.ae.getD []).set n x) (by rw[En];omega) (cs:=bA zm ((a0.ae.getD []).set n x)) k9
  rw[En]at this
  exact this
 refine kr rfl this (v':=.agg [Iv a0.day,sl 5 zw a0.ar,sl 4 zm (I ((a0.ae.getD []).set n x)),sl 8 aQ a0.units]) ?_ (by first|rfl|simp only[go_sem,seval])
 rw[Wi]
 simp only[go_sem,seval,fz]<;>rfl
def f209 (a0:qc)(a1:Int)(x:qf):Option qc:=jw (Bm a0.units a1 x) fun v=>I { a0 with units:=v }
theorem XS {a0:qc}{a1:Int}{x r}(h:f209 a0 a1 x=I r):jy pr (X pr) 209 [aR a0,Iv a1,aU x]=I (aR r,Eh):=by
 obtain⟨v,hv,h⟩:=jx h
 cases h
 obtain⟨n,rfl,hl,hi,rfl⟩:=XP hv
 have ap:BK 2 0 8 120 [kR a0.day a0.ar a0.ae a0.units,kZ,.hole] (I 7) (I (.list Eh 8 [])) (I (sl 8 aQ a0.units))=I ⟨.ms 2 0 (a0.units.getD []).length,Eh,I 7,[kR a0.day a0.ar a0.ae a0.units,kZ,.cells (bA aQ (a0.units.getD []))]⟩:=by apply XQ dJ<;>first|exact hl|rfl|decide
 have st:yj (bA aQ (a0.units.getD [])) (n*8) [.str x.name,.str x.product,Iv x.version,sl 2 aV x.uses,sl 3 zx x.results,.str x.partner,.bool x.aq,Iv x.aj]=I (bA aQ ((a0.units.getD []).set n x)):=XR (y:=x) dJ hi
 have this:ze pr (X pr) 209 [aR a0,Iv (n:Int),aU x] []=I (.agg [Iv a0.day,sl 5 zw a0.ar,sl 4 zm a0.ae,.ms 2 0 (a0.units.getD []).length],Eh,[.cells [(Iv a0.day,Eh),(sl 5 zw a0.ar,Eh),(sl 4 zm a0.ae,Eh),(.ms 2 0 (a0.units.getD []).length,Eh)],.cells [(Iv a0.day,Eh),(sl 5 zw a0.ar,Eh),(sl 4 zm a0.ae,Eh),(.ms 2 0 (a0.units.getD []).length,Eh)],.cells (bA aQ ((a0.units.getD []).set n x))]):=by
  rw[zf (show pr.bB 209=I sO from rfl) (by simp)]
  simp only[go_sem,seval,sO,ap,vC hi,st]<;>rfl
 have fz:iH [.cells [(Iv a0.day,Eh),(sl 5 zw a0.ar,Eh),(sl 4 zm a0.ae,Eh),(.ms 2 0 (a0.units.getD []).length,Eh)],.cells [(Iv a0.day,Eh),(sl 5 zw a0.ar,Eh),(sl 4 zm a0.ae,Eh),(.ms 2 0 (a0.units.getD []).length,Eh)],.cells (bA aQ ((a0.units.getD []).set n x))] (.ms 2 0 (a0.units.getD []).length)=I (sl 8 aQ (I ((a0.units.getD []).set n x))):=by
  have:=vB dJ (l:=(a0.units.getD []).set n x) (by rw[En];omega) (cs:=bA aQ ((a0.units.getD []).set n x)) k9
  rw[En]at this
  exact this
 refine kr rfl this (v':=.agg [Iv a0.day,sl 5 zw a0.ar,sl 4 zm a0.ae,sl 8 aQ (I ((a0.units.getD []).set n x))]) ?_ (by first|rfl|simp only[go_sem,seval])
 rw[Wi]
 simp only[go_sem,seval,fz]<;>rfl
end Go.Z
namespace Go.Z
open Go Go.Abs Go.W
def Bn (a0:Option (List qk))(a1:qk)(s0:(Option (List qk))×Bool×Int×Bool):Option (((Option (List qk))×Bool×Int×Bool)⊕(((Option (List qk))×Bool×Bool×Int))):=
 cond (decide (s0.2.2.1<((a0.getD []).length:Int)))
  (jw (zn (a0.getD []) s0.2.2.1) fun v24=>
  cond (decide (v24.k=a1.k))
   (cond (decide (0<a1.n))
    (cond s0.2.2.2
     (jw (bj s0.1 [a1]) fun fc=>
     I (.inl (fc,Ek,j6 .i64 (s0.2.2.1+1),Ek)))
     (cond s0.1.isNone
      (jw (bj s0.1 [a1]) fun lm=>
      I (.inl (lm,Ek,j6 .i64 (s0.2.2.1+1),Ek)))
      (Eu)))
    (I (.inl (s0.1,Ek,j6 .i64 (s0.2.2.1+1),s0.2.2.2))))
   (cond s0.2.2.2
    (jw (bj s0.1 [v24]) fun oV=>
    I (.inl (oV,s0.2.1,j6 .i64 (s0.2.2.1+1),Ek)))
    (cond s0.1.isNone
     (jw (bj s0.1 [v24]) fun BP=>
     I (.inl (BP,s0.2.1,j6 .i64 (s0.2.2.1+1),Ek)))
     (Eu))))
  (I (.inr (s0.1,s0.2.2.2,s0.2.1,s0.2.2.1)))
def Jz (a0:Option (List qk))(a1:qk)(s0:(Option (List qk))×Bool×Int×Bool):qg:=⟨[(0,sl 2 aV a0,Eh),(3,.ah (aN a1),Eh),(5,sl 2 aV s0.1,s0.2.2.2),(6,.bool s0.2.1,Eh),(7,Iv s0.2.2.1,Eh)],[]⟩
def JA (a0:Option (List qk))(a1:qk)(d:((Option (List qk))×Bool×Bool×Int)):qi×qg:=(.exit 0,⟨[(0,sl 2 aV a0,Eh),(3,.ah (aN a1),Eh),(5,sl 2 aV d.1,d.2.1),(6,.bool d.2.2.1,Eh),(7,Iv d.2.2.2,Eh),(11,.bool Eh,Eh)],[]⟩)
theorem jtc (a0:Option (List qk))(a1:qk)(s0:(Option (List qk))×Bool×Int×Bool)(r)(h:Bn a0 a1 s0=I r):yr pr JB (Jz a0 a1) (JA a0 a1) s0 r:=by
 unfold Bn at h
 repeat' first|(replace h:=jx h;obtain⟨d,g,h⟩:=h;with_reducible first|replace g:=A7 g|skip)|(replace h:=jz h;rcases h with⟨g,h⟩|⟨g,h⟩)|fail
 all_goals (cases h<;>(first|(refine zu ?_;simp only[go_sem,seval,JB,Jz,zj,JA, *]<;>rfl)|(refine yl ?_;simp only[go_sem,seval,JB,Jz,zj,JA, *]<;>rfl)))
theorem jrt (a0:Option (List qk))(a1:qk){s0 d}(h:aY (Bn a0 a1) s0=I d):X pr (.loop JB) (Jz a0 a1 s0)=I (JA a0 a1 d):=y8 (jtc a0 a1) (fun d hh=>by cases hh) h
def f203 (a0:Option (List qk))(a1:qk):Option ((Option (List qk))×Bool):=
 jw (aY (Bn a0 a1) (Eu,Eh,0,Eh)) fun d40=>
 cond d40.2.2.1
  (I (d40.1,d40.2.1))
  (cond (decide (0<a1.n))
   (cond d40.2.1
    (jw (bj d40.1 [a1]) fun yX=>
    I (yX,Ek))
    (cond d40.1.isNone
     (jw (bj d40.1 [a1]) fun JC=>
     I (JC,Ek))
     (Eu)))
   (I (d40.1,d40.2.1)))
theorem zce {a0 a1 r}(h:f203 a0 a1=I r):jy pr (X pr) 203 [sl 2 aV a0,aN a1]=I (sl 2 aV r.1,r.2):=by
 unfold f203 at h
 refine eh wM ?_
 repeat' first|(replace h:=jx h;obtain⟨d,g,h⟩:=h;with_reducible first|replace g:=A7 g|(replace g:=jrt a0 a1 g;dsimp only[Jz,JA,y7]at g h)|skip)|(replace h:=jz h;rcases h with⟨g,h⟩|⟨g,h⟩)|fail
 all_goals (cases h<;>(simp only[go_sem,seval,wM, *];exact⟨_,rfl⟩))
def Bo (a0:Option (List qj))(a1:qj)(s0:(Option (List qj))×Bool×Int×Bool):Option (((Option (List qj))×Bool×Int×Bool)⊕(((Option (List qj))×Bool×Bool×Int))):=
 cond (decide (s0.2.2.1<((a0.getD []).length:Int)))
  (jw (zn (a0.getD []) s0.2.2.1) fun eH=>
  cond (decide (eH.k=a1.k))
   (cond s0.2.2.2
    (jw (bj s0.1 [a1]) fun eg=>
    I (.inl (eg,Ek,j6 .i64 (s0.2.2.1+1),Ek)))
    (cond s0.1.isNone
     (jw (bj s0.1 [a1]) fun fc=>
     I (.inl (fc,Ek,j6 .i64 (s0.2.2.1+1),Ek)))
     (Eu)))
   (cond s0.2.2.2
    (jw (bj s0.1 [eH]) fun lm=>
    I (.inl (lm,s0.2.1,j6 .i64 (s0.2.2.1+1),Ek)))
    (cond s0.1.isNone
     (jw (bj s0.1 [eH]) fun oV=>
     I (.inl (oV,s0.2.1,j6 .i64 (s0.2.2.1+1),Ek)))
     (Eu))))
  (I (.inr (s0.1,s0.2.2.2,s0.2.1,s0.2.2.1)))
def JD (a0:Option (List qj))(a1:qj)(s0:(Option (List qj))×Bool×Int×Bool):qg:=⟨[(0,sl 3 zx a0,Eh),(3,.ah (aT a1),Eh),(5,sl 3 zx s0.1,s0.2.2.2),(6,.bool s0.2.1,Eh),(7,Iv s0.2.2.1,Eh)],[]⟩
def JE (a0:Option (List qj))(a1:qj)(d:((Option (List qj))×Bool×Bool×Int)):qi×qg:=(.exit 0,⟨[(0,sl 3 zx a0,Eh),(3,.ah (aT a1),Eh),(5,sl 3 zx d.1,d.2.1),(6,.bool d.2.2.1,Eh),(7,Iv d.2.2.2,Eh),(11,.bool Eh,Eh)],[]⟩)
theorem js6 (a0:Option (List qj))(a1:qj)(s0:(Option (List qj))×Bool×Int×Bool)(r)(h:Bo a0 a1 s0=I r):yr pr JF (JD a0 a1) (JE a0 a1) s0 r:=by
 unfold Bo at h
 repeat' first|(replace h:=jx h;obtain⟨d,g,h⟩:=h;with_reducible first|replace g:=ES g|skip)|(replace h:=jz h;rcases h with⟨g,h⟩|⟨g,h⟩)|fail
 all_goals (cases h<;>(first|(refine zu ?_;simp only[go_sem,seval,JF,JD,zj,JE, *]<;>rfl)|(refine yl ?_;simp only[go_sem,seval,JF,JD,zj,JE, *]<;>rfl)))
theorem jsw (a0:Option (List qj))(a1:qj){s0 d}(h:aY (Bo a0 a1) s0=I d):X pr (.loop JF) (JD a0 a1 s0)=I (JE a0 a1 d):=y8 (js6 a0 a1) (fun d hh=>by cases hh) h
def f204 (a0:Option (List qj))(a1:qj):Option ((Option (List qj))×Bool):=
 jw (aY (Bo a0 a1) (Eu,Eh,0,Eh)) fun d37=>
 cond d37.2.2.1
  (I (d37.1,d37.2.1))
  (cond d37.2.1
   (jw (bj d37.1 [a1]) fun BQ=>
   I (BQ,Ek))
   (cond d37.1.isNone
    (jw (bj d37.1 [a1]) fun BR=>
    I (BR,Ek))
    (Eu)))
theorem zgq {a0 a1 r}(h:f204 a0 a1=I r):jy pr (X pr) 204 [sl 3 zx a0,aT a1]=I (sl 3 zx r.1,r.2):=by
 unfold f204 at h
 refine eh wN ?_
 repeat' first|(replace h:=jx h;obtain⟨d,g,h⟩:=h;with_reducible first|replace g:=ES g|(replace g:=jsw a0 a1 g;dsimp only[JD,JE,y7]at g h)|skip)|(replace h:=jz h;rcases h with⟨g,h⟩|⟨g,h⟩)|fail
 all_goals (cases h<;>(simp only[go_sem,seval,wN, *];exact⟨_,rfl⟩))
def Bp (a0:Option (List qk))(a1:List UInt8)(a2:Int)(s0:(Option (List qk))×Bool×Int×Bool):Option (((Option (List qk))×Bool×Int×Bool)⊕(((Option (List qk))×Bool×Bool×Int))):=
 cond (decide (s0.2.2.1<((a0.getD []).length:Int)))
  (jw (zn (a0.getD []) s0.2.2.1) fun eH=>
  cond (decide (eH.k=a1))
   (cond s0.2.2.2
    (jw (bj s0.1 [⟨eH.k,j6 .i64 (eH.n+a2)⟩]) fun eg=>
    I (.inl (eg,Ek,j6 .i64 (s0.2.2.1+1),Ek)))
    (cond s0.1.isNone
     (jw (bj s0.1 [⟨eH.k,j6 .i64 (eH.n+a2)⟩]) fun fc=>
     I (.inl (fc,Ek,j6 .i64 (s0.2.2.1+1),Ek)))
     (Eu)))
   (cond s0.2.2.2
    (jw (bj s0.1 [eH]) fun lm=>
    I (.inl (lm,s0.2.1,j6 .i64 (s0.2.2.1+1),Ek)))
    (cond s0.1.isNone
     (jw (bj s0.1 [eH]) fun oV=>
     I (.inl (oV,s0.2.1,j6 .i64 (s0.2.2.1+1),Ek)))
     (Eu))))
  (I (.inr (s0.1,s0.2.2.2,s0.2.1,s0.2.2.1)))
def BS (a0:Option (List qk))(a1:List UInt8)(a2:Int)(s0:(Option (List qk))×Bool×Int×Bool):qg:=⟨[(0,sl 2 aV a0,Eh),(1,.str a1,Eh),(2,Iv a2,Eh),(7,sl 2 aV s0.1,s0.2.2.2),(8,.bool s0.2.1,Eh),(9,Iv s0.2.2.1,Eh)],[]⟩
def JG (a0:Option (List qk))(a1:List UInt8)(a2:Int)(d:((Option (List qk))×Bool×Bool×Int)):qi×qg:=(.exit 0,⟨[(0,sl 2 aV a0,Eh),(1,.str a1,Eh),(2,Iv a2,Eh),(7,sl 2 aV d.1,d.2.1),(8,.bool d.2.2.1,Eh),(9,Iv d.2.2.2,Eh),(14,.bool Eh,Eh)],[]⟩)
theorem jv1 (a0:Option (List qk))(a1:List UInt8)(a2:Int)(s0:(Option (List qk))×Bool×Int×Bool)(r)(h:Bp a0 a1 a2 s0=I r):yr pr JH (BS a0 a1 a2) (JG a0 a1 a2) s0 r:=by
 unfold Bp at h
 repeat' first|(replace h:=jx h;obtain⟨d,g,h⟩:=h;with_reducible first|replace g:=A7 g|skip)|(replace h:=jz h;rcases h with⟨g,h⟩|⟨g,h⟩)|fail
 all_goals (cases h<;>(first|(refine zu ?_;simp only[go_sem,seval,JH,BS,zj,JG, *]<;>rfl)|(refine q72 ?_ rfl (by first|simp only[go_sem,seval,BS]|rfl) (by first|simp only[go_sem,seval,BS]|rfl);simp only[go_sem,seval,JH,BS,zj,JG, *];exact⟨_,rfl⟩)))
theorem ju3 (a0:Option (List qk))(a1:List UInt8)(a2:Int){s0 d}(h:aY (Bp a0 a1 a2) s0=I d):X pr (.loop JH) (BS a0 a1 a2 s0)=I (JG a0 a1 a2 d):=y8 (jv1 a0 a1 a2) (fun d hh=>by cases hh) h
def f252 (a0:Option (List qk))(a1:List UInt8)(a2:Int):Option ((Option (List qk))×Bool):=
 jw (aY (Bp a0 a1 a2) (Eu,Eh,0,Eh)) fun d37=>
 cond d37.2.2.1
  (I (d37.1,d37.2.1))
  (cond d37.2.1
   (jw (bj d37.1 [⟨a1,a2⟩]) fun BQ=>
   I (BQ,Ek))
   (cond d37.1.isNone
    (jw (bj d37.1 [⟨a1,a2⟩]) fun BR=>
    I (BR,Ek))
    (Eu)))
theorem ze4 {a0 a1 a2 r}(h:f252 a0 a1 a2=I r):jy pr (X pr) 252 [sl 2 aV a0,.str a1,Iv a2]=I (sl 2 aV r.1,r.2):=by
 unfold f252 at h
 refine eh wO ?_
 repeat' first|(replace h:=jx h;obtain⟨d,g,h⟩:=h;with_reducible first|replace g:=A7 g|(replace g:=ju3 a0 a1 a2 g;dsimp only[BS,JG,y7]at g h)|skip)|(replace h:=jz h;rcases h with⟨g,h⟩|⟨g,h⟩)|fail
 all_goals (cases h<;>(simp only[go_sem,seval,wO, *];exact⟨_,rfl⟩))
def f124 (a0:qc)(a1:ql):Option (qc×Int):=
 jw (zn (a1.names.getD []) 0) fun v1=>
 cond (decide (a1.kind=([108,111,116]:List UInt8)))
  (jw (f28 a0 v1) fun v4=>
  cond (decide (0≤v4))
   (I (a0,9))
   (jw (zn (a1.values.getD []) 1) fun v7=>
   jw (f59 v7 1 10000) fun v9=>
   cond v9
    (I (a0,3))
    (cond (decide (64≤((a0.ar.getD []).length:Int)))
     (I (a0,5))
     (jw (bj (I []) (a0.ar.getD [])) fun ef=>
     jw (zn (a1.names.getD []) 1) fun eO=>
     jw (bj ef [⟨v1,eO,v7,v7,Eh⟩]) fun hO=>
     I (⟨a0.day,hO,a0.ae,a0.units⟩,0)))))
  (cond (decide (a1.kind=([112,114,111,100,117,99,116]:List UInt8)))
   (jw (f144 a0 v1) fun v20=>
   cond (decide (0≤v20))
    (I (a0,9))
    (cond (decide (16≤((a0.ae.getD []).length:Int)))
     (I (a0,5))
     (jw (bj (I []) (a0.ae.getD [])) fun v24=>
     jw (bj v24 [⟨v1,Eu,Eu,Eu⟩]) fun eg=>
     I (⟨a0.day,a0.ar,eg,a0.units⟩,0))))
   (jw (zn (a1.names.getD []) 1) fun v28=>
   jw (f144 a0 v28) fun v30=>
   cond (decide (v30<0))
    (I (a0,10))
    (jw (f27 a0 v1) fun kW=>
    cond (decide (0≤kW))
     (I (a0,9))
     (jw (zn (a0.ae.getD []) v30) fun yY=>
     cond (decide (((yY.aO.getD []).length:Int)=0))
      (I (a0,32))
      (cond (decide (256≤((a0.units.getD []).length:Int)))
       (I (a0,5))
       (jw (bj (I []) (a0.units.getD [])) fun v40=>
       jw (bj v40 [⟨v1,v28,((yY.aO.getD []).length:Int),Eu,Eu,[],Eh,0⟩]) fun JI=>
       I (⟨a0.day,a0.ar,a0.ae,JI⟩,0)))))))
theorem zgs {a0 a1 r}(h:f124 a0 a1=I r):jy pr (X pr) 124 [aR a0,aE a1]=I (.ay [aR r.1,Iv r.2],Eh):=by
 unfold f124 at h
 refine yz wP ?_
 repeat' first|(replace h:=jx h;obtain⟨d,g,h⟩:=h; (with_reducible first|replace g:=Fs g|replace g:=XT g|replace g:=PB g|replace g:=Ft g|replace g:=Wy g|replace g:=q44 g|replace g:=OT g|skip);try dsimp only[y7,hH,List.map,kh,zk,zw,zm,aQ,y9,vev,aV,zx,db,aE,aR,aU,aL,aP,aD]at g)|(replace h:=jz h;rcases h with⟨g,h⟩|⟨g,h⟩)|fail
 all_goals (cases h<;>(simp only[go_sem,seval,wP,zj,lN, *];exact⟨_,rfl⟩))
end Go.Z
end
