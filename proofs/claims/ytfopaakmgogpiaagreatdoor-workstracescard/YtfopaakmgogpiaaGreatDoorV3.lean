/- Chapter 10. -/
import Derived.Test.YtfopaakmgogpiaaGreatDoorV0
import Derived.Test.YtfopaakmgogpiaaGreatDoorW8
import Derived.Test.YtfopaakmgogpiaaGreatDoorW3
set_option linter.unusedVariables false
set_option linter.unusedSimpArgs false
set_option maxRecDepth 100000
set_option maxHeartbeats 4000000
noncomputable section
open Option renaming some→I,none→E5
open Bool renaming false→Eh,true→El,and_self→Ev
open List renaming length_set→En,length_map→E7,all→Ga
open Nat renaming le_of_ble_eq_true→Eo,ble_eq_true_of_le→E6
namespace Go.Z
open Go Go.Abs Go.W
theorem Et {α:Type}{f:α→qa}{sz:Nat}(E:oC f sz){l:List α}{i o:Nat}{x y:α}{u:qa}(hx:l[i]?=I x)(ho:o<sz)(hy:(f y).flat=(f x).flat.set o u)(w:Bool):((bz f l).set (i*sz+o) (u,w)).map (·.1)=yv f (l.set i y):=by
 have h:=congrArg (List.map (·.1)) (q5o E.len hx ho hy)
 rw[List.map_set]at h ⊢
 rw[show(bz f (l.set i y)).map (·.1)=yv f (l.set i y)from kz]at h
 exact h
theorem Ic {α:Type}{f:α→qa}{sz:Nat}(E:oC f sz){l:List α}{i o:Nat}{x:α}(hx:l[i]?=I x)(ho:o<sz):i*sz+o<(bz f l).length:=by
 have h:=(DV (n:=1) (o:=o) E.len hx (by omega)).2
 simp only[bz,cellsOf,E7]
 omega
def Hr (c:Int)(nm k:List UInt8)(x:qn):Option qn:=cond (decide (c=0))
 (jx (f171 x.dn nm) fun v=>I { x with dn:=v.1 })
 (jx (f173 x.dn ⟨k,c⟩ nm) fun v=>I { x with dn:=v.1 })
theorem j9m {l:List qn}{i:Nat}{x y:qn}{c:Int}{nm k:List UInt8}(hx:l[i]?=I x)(h:Hr c nm k x=I y):
  ∃cs,zg pr (X pr) 170 [.ptr 0 (i*4+1),.ah (Iv c),.ah (.fn (.func 167) [] [.ah (.str nm)]),.ah (.str k)] [.cells (bz zu l)]=I (.az [],Eh,[.cells cs])∧cs.map (·.1)=yv zu (l.set i y):=by
 unfold Hr at h
 have ld:kc (bz zu l) (i*4+1) 1=I [sl 2 aV x.dn]:=uM (o:=1) cm.len hx (by decide)
 have hb:=Ic cm (o:=1) hx (by decide)
 rcases j6 h with⟨h1,h⟩|⟨h1,h⟩
 ·obtain⟨v,hv,h⟩:=jy h
  cases h
  have w:=zdr [.cells (bz zu l)] hv
  rcases v with⟨v,o⟩
  have hy:(zu { x with dn:=v }).flat=(zu x).flat.set 1 (sl 2 aV v):=rfl
  have st:yi (bz zu l) (i*4+1) [sl 2 aV v]=I (bz zu (l.set i { x with dn:=v })):=lW (o:=1) cm.len hx (Eo rfl) (by simp only[Ga,go_sem,Ev]) rfl
  cases o with
  |true=>exact⟨_,by rw[zh (show pr.bH 170=I iz from rfl) (by simp)];simp only[go_sem,seval,iz,h1,ld,w,hb]<;>rfl,Et cm hx (by decide) hy El⟩
  |false=>exact⟨_,by rw[zh (show pr.bH 170=I iz from rfl) (by simp)];simp only[go_sem,seval,iz,h1,ld,w,st]<;>rfl,kz⟩
 ·obtain⟨v,hv,h⟩:=jy h
  cases h
  have w:jz pr (X pr) 173 [sl 2 aV x.dn,.agg [.str k,Iv c],.fn (.func 167) [] [.ah (.str nm)]]=I (sl 2 aV v.1,v.2):=zfi hv
  rcases v with⟨v,o⟩
  have hy:(zu { x with dn:=v }).flat=(zu x).flat.set 1 (sl 2 aV v):=rfl
  have st:yi (bz zu l) (i*4+1) [sl 2 aV v]=I (bz zu (l.set i { x with dn:=v })):=lW (o:=1) cm.len hx (Eo rfl) (by simp only[Ga,go_sem,Ev]) rfl
  cases o with
  |true=>exact⟨_,by rw[zh (show pr.bH 170=I iz from rfl) (by simp)];simp only[go_sem,seval,iz,h1,ld,w,hb]<;>rfl,Et cm hx (by decide) hy El⟩
  |false=>exact⟨_,by rw[zh (show pr.bH 170=I iz from rfl) (by simp)];simp only[go_sem,seval,iz,h1,ld,w,st]<;>rfl,kz⟩
def Vc (l:Option (List qn))(i:Int)(c:Int)(nm k:List UInt8):Option (Option (List qn)):=fO l i (Hr c nm k)
theorem jia {l:Option (List qn)}{i:Int}{c:Int}{nm k:List UInt8}{r}(h:Vc l i c nm k=I r):jz pr (X pr) 178 [sl 4 zu l,Iv i,.fn (.func 236) [] [.ah (.fn (.func 170) [] [.ah (Iv c),.ah (.fn (.func 167) [] [.ah (.str nm)]),.ah (.str k)])]]=I (sl 4 zu r,Eh):=by
 refine V5 (fun n x y hx hy=>?_) h
 obtain⟨cs,h1,h2⟩:=j9m hx hy
 exact⟨cs,by rw[zh (show pr.bH 236=I mZ from rfl) (by simp)];simp only[go_sem,seval,mZ,h1]<;>rfl,h2⟩
def Hs (t s:qi)(x:qn):Option qn:=jx (f177 x.dt t s) fun v=>I { x with dt:=v.1 }
theorem za8 {l:List qn}{i:Nat}{x y:qn}{t s:qi}(hx:l[i]?=I x)(h:Hs t s x=I y):
  ∃cs,zg pr (X pr) 176 [.ptr 0 (i*4+1),.ah (zz t),.ah (.fn (.func 174) [] [.ah (zz s)])] [.cells (bz zu l)]=I (.az [],Eh,[.cells cs])∧cs.map (·.1)=yv zu (l.set i y):=by
 unfold Hs at h
 have ld:kc (bz zu l) (i*4+1+1) 1=I [sl 3 zz x.dt]:=uM (o:=2) cm.len hx (by decide)
 have hb:i*4+1+1<(bz zu l).length:=Ic cm (o:=2) hx (by decide)
 obtain⟨v,hv,h⟩:=jy h
 cases h
 have w:jz pr (X pr) 177 [sl 3 zz x.dt,aT t,.fn (.func 174) [] [.ah (aT s)]]=I (sl 3 zz v.1,v.2):=j9e hv
 rcases v with⟨v,o⟩
 have hy:(zu { x with dt:=v }).flat=(zu x).flat.set 2 (sl 3 zz v):=rfl
 have st:yi (bz zu l) (i*4+1+1) [sl 3 zz v]=I (bz zu (l.set i { x with dt:=v })):=lW (o:=2) cm.len hx (Eo rfl) (by simp only[Ga,go_sem,Ev]) rfl
 cases o with
 |true=>exact⟨_,by rw[zh (show pr.bH 176=I nc from rfl) (by simp)];simp only[go_sem,seval,nc,zz,ld,w,hb]<;>rfl,Et cm (o:=2) hx (by decide) hy El⟩
 |false=>exact⟨_,by rw[zh (show pr.bH 176=I nc from rfl) (by simp)];simp only[go_sem,seval,nc,zz,ld,w,st]<;>rfl,kz⟩
def Vd (l:Option (List qn))(i:Int)(t s:qi):Option (Option (List qn)):=fO l i (Hs t s)
theorem jhq {l:Option (List qn)}{i:Int}{t s:qi}{r}(h:Vd l i t s=I r):jz pr (X pr) 178 [sl 4 zu l,Iv i,.fn (.func 236) [] [.ah (.fn (.func 176) [] [.ah (zz t),.ah (.fn (.func 174) [] [.ah (zz s)])])]]=I (sl 4 zu r,Eh):=by
 refine V5 (fun n x y hx hy=>?_) h
 obtain⟨cs,h1,h2⟩:=za8 hx hy
 simp only[jcw]at h1
 exact⟨cs,by rw[zh (show pr.bH 236=I mZ from rfl) (by simp)];simp only[go_sem,seval,mZ,h1]<;>rfl,h2⟩
def NF (x:qn):Option qn:=jx (f181 ⟨x.dn,x.dt⟩) fun d=>jx (f180 x.aO d) fun v=>I { x with aO:=v }
theorem zat {l:List qn}{i:Nat}{x y:qn}(hx:l[i]?=I x)(h:NF x=I y):
  ∃cs,zg pr (X pr) 179 [.ptr 0 (i*4)] [.cells (bz zu l)]=I (.az [],Eh,[.cells cs])∧cs.map (·.1)=yv zu (l.set i y):=by
 unfold NF at h
 have ld:kc (bz zu l) (i*4+3) 1=I [sl 2 dp x.aO]:=uM (o:=3) cm.len hx (by decide)
 have V9:kc (bz zu l) (i*4+1) 2=I [sl 2 aV x.dn,sl 3 zz x.dt]:=uM (o:=1) cm.len hx (by decide)
 have hb:i*4+3<(bz zu l).length:=Ic cm (o:=3) hx (by decide)
 obtain⟨d,hd,h⟩:=jy h
 obtain⟨v,hv,h⟩:=jy h
 cases h
 have w:jz pr (X pr) 181 [.agg [sl 2 aV x.dn,sl 3 zz x.dt]]=I (aD d,Eh):=zfw hd
 have w2:jz pr (X pr) 180 [sl 2 dp x.aO,aD d]=I (sl 2 dp v,El):=j8s hv
 have hy:(zu { x with aO:=v }).flat=(zu x).flat.set 3 (sl 2 dp v):=rfl
 exact⟨_,by rw[zh (show pr.bH 179=I sj from rfl) (by simp)];simp only[go_sem,seval,sj,ld,V9,w,w2,hb]<;>rfl,Et cm (o:=3) hx (by decide) hy El⟩
def NE (l:Option (List qn))(i:Int):Option (Option (List qn)):=fO l i NF
theorem jik {l:Option (List qn)}{i:Int}{r}(h:NE l i=I r):jz pr (X pr) 178 [sl 4 zu l,Iv i,.fn (.func 179) [] []]=I (sl 4 zu r,Eh):=
 V5 (fun n x y hx hy=>zat hx hy) h
def NG (e:ql)(x:qe):Option qe:=jx (zq (e.names.getD []) 1) fun n=>jx (zq (e.values.getD []) 1) fun b=>jx (f194 x.results ⟨n,x.version,b⟩) fun v=>I { x with results:=v }
theorem zhb {l:List qe}{i:Nat}{x y:qe}{e:ql}(hx:l[i]?=I x)(h:NG e x=I y):
  ∃cs,zg pr (X pr) 193 [.ptr 0 (i*8),.ah (vev e)] [.cells (bz bf l)]=I (.az [],Eh,[.cells cs])∧cs.map (·.1)=yv bf (l.set i y):=by
 unfold NG at h
 have ld:kc (bz bf l) (i*8+4) 1=I [sl 3 zz x.results]:=uM (o:=4) dK.len hx (by decide)
 have V9:kc (bz bf l) (i*8+2) 1=I [Iv x.version]:=uM (o:=2) dK.len hx (by decide)
 have hb:i*8+4<(bz bf l).length:=Ic dK (o:=4) hx (by decide)
 obtain⟨n,hn,h⟩:=jy h
 obtain⟨b,DG,h⟩:=jy h
 obtain⟨v,hv,h⟩:=jy h
 cases h
 have w:jz pr (X pr) 194 [sl 3 zz x.results,.agg [.str n,Iv x.version,Iv b]]=I (sl 3 zz v,El):=zeb hv
 have hy:(bf { x with results:=v }).flat=(bf x).flat.set 4 (sl 3 zz v):=rfl
 exact⟨_,by rw[zh (show pr.bH 193=I sk from rfl) (by simp)];simp only[go_sem,seval,sk,vev,ky hn,ky DG,ld,V9,w,hb]<;>rfl,Et dK (o:=4) hx (by decide) hy El⟩
def Vk (l:Option (List qe))(i:Int)(e:ql):Option (Option (List qe)):=fO l i (NG e)
theorem jfm {l:Option (List qe)}{i:Int}{e:ql}{r}(h:Vk l i e=I r):jz pr (X pr) 189 [sl 8 bf l,Iv i,.fn (.func 193) [] [.ah (vev e)]]=I (sl 8 bf r,Eh):=
 Es (fun n x y hx hy=>zhb hx hy) h
def Ed (s:qk)(t:qj)(x:qe):Option qe:=jx (f191 x.uses s t) fun v=>I { x with uses:=v.1 }
theorem js4 {b0 b1 b2 b3:qm}{l:List qe}{i:Nat}{x y:qe}{s:qk}{t:qj}(hx:l[i]?=I x)(h:Ed s t x=I y):
  ∃cs,zg pr (X pr) 190 [.ptr 5 (i*8),.ptr 4 0,.ah (.fn (.func 187) [] [.ah (z8 t)])] [b0,b1,b2,b3,.cells [(.str s.k,Eh),(Iv s.n,Eh)],.cells (bz bf l)]=I (.az [],Eh,[b0,b1,b2,b3,.cells [(.str s.k,Eh),(Iv s.n,Eh)],.cells cs])∧cs.map (·.1)=yv bf (l.set i y):=by
 unfold Ed at h
 have ld:kc (bz bf l) (i*8+3) 1=I [sl 2 aV x.uses]:=uM (o:=3) dK.len hx (by decide)
 have hb:i*8+3<(bz bf l).length:=Ic dK (o:=3) hx (by decide)
 obtain⟨v,hv,h⟩:=jy h
 cases h
 have w:jz pr (X pr) 191 [sl 2 aV x.uses,aN s,.fn (.func 187) [] [.ah (aL t)]]=I (sl 2 aV v.1,v.2):=zcw hv
 rcases v with⟨v,o⟩
 have hy:(bf { x with uses:=v }).flat=(bf x).flat.set 3 (sl 2 aV v):=rfl
 have st:yi (bz bf l) (i*8+3) [sl 2 aV v]=I (bz bf (l.set i { x with uses:=v })):=lW (o:=3) dK.len hx (Eo rfl) (by simp only[Ga,go_sem,Ev]) rfl
 cases o with
 |true=>exact⟨_,by rw[zh (show pr.bH 190=I nf from rfl) (by simp)];simp only[go_sem,seval,nf,z8,ld,w,hb]<;>rfl,Et dK (o:=3) hx (by decide) hy El⟩
 |false=>exact⟨_,by rw[zh (show pr.bH 190=I nf from rfl) (by simp)];simp only[go_sem,seval,nf,z8,ld,w,st]<;>rfl,kz⟩
end Go.Z
namespace Go.Z
open Go Go.Abs Go.W
def AR {α:Type}(l:Option (List α))(i:Int)(x:α):Option (Option (List α)):=
 if(l.getD []).length≤1073741824∧0≤i∧i<(l.getD []).length then I (I ((l.getD []).set i.toNat x))else E5
theorem Wa {α:Type}{l:Option (List α)}{i:Int}{x:α}{r}(h:AR l i x=I r):∃(n:Nat),i=(n:Int)∧(l.getD []).length≤1073741824∧n<(l.getD []).length∧r=I ((l.getD []).set n x):=by
 unfold AR at h
 split at h
 ·rename_i hc
  cases h
  exact⟨i.toNat,(Int.toNat_of_nonneg hc.2.1).symm,hc.1,by omega,rfl⟩
 ·cases h
section
variable {α:Type}{f:α→qa}{sz:Nat}{h:j8}
theorem q8q {l:List α}:cellsOf ((l.map f).flatMap qa.flat)=bz f l:=rfl
theorem Wb (E:oC f sz){n0 r b t:Nat}{l:Option (List α)}(hl:(l.getD []).length≤1073741824)(hb:b≤4096){h':j8}(hh:aI n0 h r (.cells (bz f (l.getD [])))=I h'):Bd n0 r sz b h (I t) (I (.list Eh sz [])) (I (sl sz f l))=I ⟨.ms (n0+r) 0 (l.getD []).length,Eh,I t,h'⟩:=by
 have hs:kr sz (sl sz f l)=I ((l.getD []).map f):=Uy
 have h1:0<sz:=by have:=E.big;omega
 simp only[Bd]
 rw[hs]
 simp only[Option.isSome_some,Nat.beq_refl,Ev,cT,E7,E6 hl,E6 hb,Nat.blt_eq.mpr h1,q8q,hh]
theorem Wc (E:oC f sz){l:List α}{i:Nat}{y:α}(hi:i<l.length):yi (bz f l) (i*sz) (f y).flat=I (bz f (l.set i y)):=by
 have hx:l[i]?=I l[i]:=List.getElem?_eq_getElem hi
 have hl:=E.len l[i]
 have hly:=E.len y
 have:=lW (o:=0) (us:=(f y).flat) (y:=y) E.len hx (by omega) (E.sc y) (by rw[List.take_zero,List.nil_append,List.drop_eq_nil_of_le (by omega),List.append_nil])
 rw[Nat.add_zero]at this
 exact this
end
def f206 (a0:qc)(a1:Int)(x:qj):Option qc:=jx (AR a0.aq a1 x) fun v=>I { a0 with aq:=v }
theorem jt2 {a0:qc}{a1:Int}{x:qj}{r}(h:f206 a0 a1 x=I r):jz pr (X pr) 206 [aR a0,Iv a1,aL x]=I (aR r,Eh):=by
 obtain⟨v,hv,h⟩:=jy h
 cases h
 obtain⟨n,rfl,hl,hi,rfl⟩:=Wa hv
 have ap:Bd 2 0 5 56 [kR a0.day a0.aq a0.ae a0.units,kZ,.hole] (I 7) (I (.list Eh 5 [])) (I (sl 5 z8 a0.aq))=I ⟨.ms 2 0 (a0.aq.getD []).length,Eh,I 7,[kR a0.day a0.aq a0.ae a0.units,kZ,.cells (bz z8 (a0.aq.getD []))]⟩:=by apply Wb fR<;>first|exact hl|rfl|decide
 have st:yi (bz z8 (a0.aq.getD [])) (n*5) [.str x.name,.str x.kind,Iv x.count,Iv x.left,.bool x.held]=I (bz z8 ((a0.aq.getD []).set n x)):=Wc (y:=x) fR hi
 have this:zg pr (X pr) 206 [aR a0,Iv (n:Int),aL x] []=I (.agg [Iv a0.day,.ms 2 0 (a0.aq.getD []).length,sl 4 zu a0.ae,sl 8 bf a0.units],Eh,[.cells [(Iv a0.day,Eh),(.ms 2 0 (a0.aq.getD []).length,Eh),(sl 4 zu a0.ae,Eh),(sl 8 bf a0.units,Eh)],.cells [(Iv a0.day,Eh),(.ms 2 0 (a0.aq.getD []).length,Eh),(sl 4 zu a0.ae,Eh),(sl 8 bf a0.units,Eh)],.cells (bz z8 ((a0.aq.getD []).set n x))]):=by
  rw[zh (show pr.bH 206=I sn from rfl) (by simp)]
  simp only[go_sem,seval,sn,ap,vh hi,st]<;>rfl
 have fz:iG [.cells [(Iv a0.day,Eh),(.ms 2 0 (a0.aq.getD []).length,Eh),(sl 4 zu a0.ae,Eh),(sl 8 bf a0.units,Eh)],.cells [(Iv a0.day,Eh),(.ms 2 0 (a0.aq.getD []).length,Eh),(sl 4 zu a0.ae,Eh),(sl 8 bf a0.units,Eh)],.cells (bz z8 ((a0.aq.getD []).set n x))] (.ms 2 0 (a0.aq.getD []).length)=I (sl 5 z8 (I ((a0.aq.getD []).set n x))):=by
  have:=vg fR (l:=(a0.aq.getD []).set n x) (by rw[En];omega) (cs:=bz z8 ((a0.aq.getD []).set n x)) kz
  rw[En]at this
  exact this
 refine k9 rfl this (v':=.agg [Iv a0.day,sl 5 z8 (I ((a0.aq.getD []).set n x)),sl 4 zu a0.ae,sl 8 bf a0.units]) ?_ (by first|rfl|simp only[go_sem,seval])
 rw[UF]
 simp only[go_sem,seval,fz]<;>rfl
def f205 (a0:qc)(a1:Int)(x:qn):Option qc:=jx (AR a0.ae a1 x) fun v=>I { a0 with ae:=v }
theorem zcq {a0:qc}{a1:Int}{x:qn}{r}(h:f205 a0 a1 x=I r):jz pr (X pr) 205 [aR a0,Iv a1,aP x]=I (aR r,Eh):=by
 obtain⟨v,hv,h⟩:=jy h
 cases h
 obtain⟨n,rfl,hl,hi,rfl⟩:=Wa hv
 have ap:Bd 2 0 4 88 [kR a0.day a0.aq a0.ae a0.units,kZ,.hole] (I 7) (I (.list Eh 4 [])) (I (sl 4 zu a0.ae))=I ⟨.ms 2 0 (a0.ae.getD []).length,Eh,I 7,[kR a0.day a0.aq a0.ae a0.units,kZ,.cells (bz zu (a0.ae.getD []))]⟩:=by apply Wb cm<;>first|exact hl|rfl|decide
 have st:yi (bz zu (a0.ae.getD [])) (n*4) [.str x.name,sl 2 aV x.dn,sl 3 zz x.dt,sl 2 dp x.aO]=I (bz zu ((a0.ae.getD []).set n x)):=Wc (y:=x) cm hi
 have this:zg pr (X pr) 205 [aR a0,Iv (n:Int),aP x] []=I (.agg [Iv a0.day,sl 5 z8 a0.aq,.ms 2 0 (a0.ae.getD []).length,sl 8 bf a0.units],Eh,[.cells [(Iv a0.day,Eh),(sl 5 z8 a0.aq,Eh),(.ms 2 0 (a0.ae.getD []).length,Eh),(sl 8 bf a0.units,Eh)],.cells [(Iv a0.day,Eh),(sl 5 z8 a0.aq,Eh),(.ms 2 0 (a0.ae.getD []).length,Eh),(sl 8 bf a0.units,Eh)],.cells (bz zu ((a0.ae.getD []).set n x))]):=by
  rw[zh (show pr.bH 205=I su from rfl) (by simp)]
  simp only[go_sem,seval,su,ap,vh hi,st]<;>rfl
 have fz:iG [.cells [(Iv a0.day,Eh),(sl 5 z8 a0.aq,Eh),(.ms 2 0 (a0.ae.getD []).length,Eh),(sl 8 bf a0.units,Eh)],.cells [(Iv a0.day,Eh),(sl 5 z8 a0.aq,Eh),(.ms 2 0 (a0.ae.getD []).length,Eh),(sl 8 bf a0.units,Eh)],.cells (bz zu ((a0.ae.getD []).set n x))] (.ms 2 0 (a0.ae.getD []).length)=I (sl 4 zu (I ((a0.ae.getD []).set n x))):=by
  have:=vg cm (l:=(a0.ae.getD []).set n x) (by rw[En];omega) (cs:=bz zu ((a0.ae.getD []).set n x)) kz
  rw[En]at this
  exact this
 refine k9 rfl this (v':=.agg [Iv a0.day,sl 5 z8 a0.aq,sl 4 zu (I ((a0.ae.getD []).set n x)),sl 8 bf a0.units]) ?_ (by first|rfl|simp only[go_sem,seval])
 rw[UF]
 simp only[go_sem,seval,fz]<;>rfl
def f209 (a0:qc)(a1:Int)(x:qe):Option qc:=jx (AR a0.units a1 x) fun v=>I { a0 with units:=v }
theorem Wd {a0:qc}{a1:Int}{x:qe}{r}(h:f209 a0 a1 x=I r):jz pr (X pr) 209 [aR a0,Iv a1,aU x]=I (aR r,Eh):=by
 obtain⟨v,hv,h⟩:=jy h
 cases h
 obtain⟨n,rfl,hl,hi,rfl⟩:=Wa hv
 have ap:Bd 2 0 8 120 [kR a0.day a0.aq a0.ae a0.units,kZ,.hole] (I 7) (I (.list Eh 8 [])) (I (sl 8 bf a0.units))=I ⟨.ms 2 0 (a0.units.getD []).length,Eh,I 7,[kR a0.day a0.aq a0.ae a0.units,kZ,.cells (bz bf (a0.units.getD []))]⟩:=by apply Wb dK<;>first|exact hl|rfl|decide
 have st:yi (bz bf (a0.units.getD [])) (n*8) [.str x.name,.str x.product,Iv x.version,sl 2 aV x.uses,sl 3 zz x.results,.str x.partner,.bool x.ar,Iv x.aj]=I (bz bf ((a0.units.getD []).set n x)):=Wc (y:=x) dK hi
 have this:zg pr (X pr) 209 [aR a0,Iv (n:Int),aU x] []=I (.agg [Iv a0.day,sl 5 z8 a0.aq,sl 4 zu a0.ae,.ms 2 0 (a0.units.getD []).length],Eh,[.cells [(Iv a0.day,Eh),(sl 5 z8 a0.aq,Eh),(sl 4 zu a0.ae,Eh),(.ms 2 0 (a0.units.getD []).length,Eh)],.cells [(Iv a0.day,Eh),(sl 5 z8 a0.aq,Eh),(sl 4 zu a0.ae,Eh),(.ms 2 0 (a0.units.getD []).length,Eh)],.cells (bz bf ((a0.units.getD []).set n x))]):=by
  rw[zh (show pr.bH 209=I sw from rfl) (by simp)]
  simp only[go_sem,seval,sw,ap,vh hi,st]<;>rfl
 have fz:iG [.cells [(Iv a0.day,Eh),(sl 5 z8 a0.aq,Eh),(sl 4 zu a0.ae,Eh),(.ms 2 0 (a0.units.getD []).length,Eh)],.cells [(Iv a0.day,Eh),(sl 5 z8 a0.aq,Eh),(sl 4 zu a0.ae,Eh),(.ms 2 0 (a0.units.getD []).length,Eh)],.cells (bz bf ((a0.units.getD []).set n x))] (.ms 2 0 (a0.units.getD []).length)=I (sl 8 bf (I ((a0.units.getD []).set n x))):=by
  have:=vg dK (l:=(a0.units.getD []).set n x) (by rw[En];omega) (cs:=bz bf ((a0.units.getD []).set n x)) kz
  rw[En]at this
  exact this
 refine k9 rfl this (v':=.agg [Iv a0.day,sl 5 z8 a0.aq,sl 4 zu a0.ae,sl 8 bf (I ((a0.units.getD []).set n x))]) ?_ (by first|rfl|simp only[go_sem,seval])
 rw[UF]
 simp only[go_sem,seval,fz]<;>rfl
end Go.Z
namespace Go.Z
open Go Go.Abs Go.W
def AU (a0:Option (List qk))(a1:qk)(s0:(Option (List qk))×Bool×Int×Bool):Option (((Option (List qk))×Bool×Int×Bool)⊕(((Option (List qk))×Bool×Bool×Int))):=
 cond (decide (s0.2.2.1<((a0.getD []).length:Int)))
  (jx (zq (a0.getD []) s0.2.2.1) fun v24=>
  cond (decide (v24.k=a1.k))
   (cond (decide (0<a1.n))
    (cond s0.2.2.2
     (jx (bp s0.1 [a1]) fun fV=>
     I (.inl (fV,El,j9 .i64 (s0.2.2.1+1),El)))
     (cond s0.1.isNone
      (jx (bp s0.1 [a1]) fun gq=>
      I (.inl (gq,El,j9 .i64 (s0.2.2.1+1),El)))
      (E5)))
    (I (.inl (s0.1,El,j9 .i64 (s0.2.2.1+1),s0.2.2.2))))
   (cond s0.2.2.2
    (jx (bp s0.1 [v24]) fun oG=>
    I (.inl (oG,s0.2.1,j9 .i64 (s0.2.2.1+1),El)))
    (cond s0.1.isNone
     (jx (bp s0.1 [v24]) fun Bh=>
     I (.inl (Bh,s0.2.1,j9 .i64 (s0.2.2.1+1),El)))
     (E5))))
  (I (.inr (s0.1,s0.2.2.2,s0.2.1,s0.2.2.1)))
def Ie (a0:Option (List qk))(a1:qk)(s0:(Option (List qk))×Bool×Int×Bool):qh:=⟨[(0,sl 2 aV a0,Eh),(3,.ah (aN a1),Eh),(5,sl 2 aV s0.1,s0.2.2.2),(6,.bool s0.2.1,Eh),(7,Iv s0.2.2.1,Eh)],[]⟩
def Ig (a0:Option (List qk))(a1:qk)(d:((Option (List qk))×Bool×Bool×Int)):qo×qh:=(.exit 0,⟨[(0,sl 2 aV a0,Eh),(3,.ah (aN a1),Eh),(5,sl 2 aV d.1,d.2.1),(6,.bool d.2.2.1,Eh),(7,Iv d.2.2.2,Eh),(11,.bool Eh,Eh)],[]⟩)
theorem jpm (a0:Option (List qk))(a1:qk)(s0:(Option (List qk))×Bool×Int×Bool)(r)(h:AU a0 a1 s0=I r):y5 pr Ih (Ie a0 a1) (Ig a0 a1) s0 r:=by
 unfold AU at h
 repeat' first|(replace h:=jy h;obtain⟨d,g,h⟩:=h;with_reducible first|replace g:=AF g|skip)|(replace h:=j6 h;rcases h with⟨g,h⟩|⟨g,h⟩)|fail
 all_goals (cases h<;>(first|(refine z6 ?_;simp only[go_sem,seval,Ih,Ie,zn,Ig, *]<;>rfl)|(refine yo ?_;simp only[go_sem,seval,Ih,Ie,zn,Ig, *]<;>rfl)))
theorem jsb (a0:Option (List qk))(a1:qk){s0:(Option (List qk))×Bool×Int×Bool}{d}(h:bj (AU a0 a1) s0=I d):X pr (.loop Ih) (Ie a0 a1 s0)=I (Ig a0 a1 d):=kl (jpm a0 a1) (fun d hh=>by cases hh) h
def f203 (a0:Option (List qk))(a1:qk):Option ((Option (List qk))×Bool):=
 jx (bj (AU a0 a1) (E5,Eh,0,Eh)) fun d40=>
 cond d40.2.2.1
  (I (d40.1,d40.2.1))
  (cond (decide (0<a1.n))
   (cond d40.2.1
    (jx (bp d40.1 [a1]) fun yD=>
    I (yD,El))
    (cond d40.1.isNone
     (jx (bp d40.1 [a1]) fun Wf=>
     I (Wf,El))
     (E5)))
   (I (d40.1,d40.2.1)))
theorem zhq {a0:Option (List qk)}{a1:qk}{r}(h:f203 a0 a1=I r):jz pr (X pr) 203 [sl 2 aV a0,aN a1]=I (sl 2 aV r.1,r.2):=by
 unfold f203 at h
 refine eh wu ?_
 repeat' first|(replace h:=jy h;obtain⟨d,g,h⟩:=h;with_reducible first|replace g:=AF g|(replace g:=jsb a0 a1 g;dsimp only[Ie,Ig,ki]at g h)|skip)|(replace h:=j6 h;rcases h with⟨g,h⟩|⟨g,h⟩)|fail
 all_goals (cases h<;>(simp only[go_sem,seval,wu, *];exact⟨_,rfl⟩))
def AV (a0:Option (List qi))(a1:qi)(s0:(Option (List qi))×Bool×Int×Bool):Option (((Option (List qi))×Bool×Int×Bool)⊕(((Option (List qi))×Bool×Bool×Int))):=
 cond (decide (s0.2.2.1<((a0.getD []).length:Int)))
  (jx (zq (a0.getD []) s0.2.2.1) fun eJ=>
  cond (decide (eJ.k=a1.k))
   (cond s0.2.2.2
    (jx (bp s0.1 [a1]) fun dM=>
    I (.inl (dM,El,j9 .i64 (s0.2.2.1+1),El)))
    (cond s0.1.isNone
     (jx (bp s0.1 [a1]) fun fV=>
     I (.inl (fV,El,j9 .i64 (s0.2.2.1+1),El)))
     (E5)))
   (cond s0.2.2.2
    (jx (bp s0.1 [eJ]) fun gq=>
    I (.inl (gq,s0.2.1,j9 .i64 (s0.2.2.1+1),El)))
    (cond s0.1.isNone
     (jx (bp s0.1 [eJ]) fun oG=>
     I (.inl (oG,s0.2.1,j9 .i64 (s0.2.2.1+1),El)))
     (E5))))
  (I (.inr (s0.1,s0.2.2.2,s0.2.1,s0.2.2.1)))
def Ii (a0:Option (List qi))(a1:qi)(s0:(Option (List qi))×Bool×Int×Bool):qh:=⟨[(0,sl 3 zz a0,Eh),(3,.ah (aT a1),Eh),(5,sl 3 zz s0.1,s0.2.2.2),(6,.bool s0.2.1,Eh),(7,Iv s0.2.2.1,Eh)],[]⟩
def Ij (a0:Option (List qi))(a1:qi)(d:((Option (List qi))×Bool×Bool×Int)):qo×qh:=(.exit 0,⟨[(0,sl 3 zz a0,Eh),(3,.ah (aT a1),Eh),(5,sl 3 zz d.1,d.2.1),(6,.bool d.2.2.1,Eh),(7,Iv d.2.2.2,Eh),(11,.bool Eh,Eh)],[]⟩)
theorem jon (a0:Option (List qi))(a1:qi)(s0:(Option (List qi))×Bool×Int×Bool)(r)(h:AV a0 a1 s0=I r):y5 pr Ik (Ii a0 a1) (Ij a0 a1) s0 r:=by
 unfold AV at h
 repeat' first|(replace h:=jy h;obtain⟨d,g,h⟩:=h;with_reducible first|replace g:=DX g|skip)|(replace h:=j6 h;rcases h with⟨g,h⟩|⟨g,h⟩)|fail
 all_goals (cases h<;>(first|(refine z6 ?_;simp only[go_sem,seval,Ik,Ii,zn,Ij, *]<;>rfl)|(refine yo ?_;simp only[go_sem,seval,Ik,Ii,zn,Ij, *]<;>rfl)))
theorem jrs (a0:Option (List qi))(a1:qi){s0:(Option (List qi))×Bool×Int×Bool}{d}(h:bj (AV a0 a1) s0=I d):X pr (.loop Ik) (Ii a0 a1 s0)=I (Ij a0 a1 d):=kl (jon a0 a1) (fun d hh=>by cases hh) h
def f204 (a0:Option (List qi))(a1:qi):Option ((Option (List qi))×Bool):=
 jx (bj (AV a0 a1) (E5,Eh,0,Eh)) fun d37=>
 cond d37.2.2.1
  (I (d37.1,d37.2.1))
  (cond d37.2.1
   (jx (bp d37.1 [a1]) fun px=>
   I (px,El))
   (cond d37.1.isNone
    (jx (bp d37.1 [a1]) fun vi=>
    I (vi,El))
    (E5)))
theorem zhi {a0:Option (List qi)}{a1:qi}{r}(h:f204 a0 a1=I r):jz pr (X pr) 204 [sl 3 zz a0,aT a1]=I (sl 3 zz r.1,r.2):=by
 unfold f204 at h
 refine eh wv ?_
 repeat' first|(replace h:=jy h;obtain⟨d,g,h⟩:=h;with_reducible first|replace g:=DX g|(replace g:=jrs a0 a1 g;dsimp only[Ii,Ij,ki]at g h)|skip)|(replace h:=j6 h;rcases h with⟨g,h⟩|⟨g,h⟩)|fail
 all_goals (cases h<;>(simp only[go_sem,seval,wv, *];exact⟨_,rfl⟩))
def AW (a0:Option (List qk))(a1:List UInt8)(a2:Int)(s0:(Option (List qk))×Bool×Int×Bool):Option (((Option (List qk))×Bool×Int×Bool)⊕(((Option (List qk))×Bool×Bool×Int))):=
 cond (decide (s0.2.2.1<((a0.getD []).length:Int)))
  (jx (zq (a0.getD []) s0.2.2.1) fun eJ=>
  cond (decide (eJ.k=a1))
   (cond s0.2.2.2
    (jx (bp s0.1 [⟨eJ.k,j9 .i64 (eJ.n+a2)⟩]) fun dM=>
    I (.inl (dM,El,j9 .i64 (s0.2.2.1+1),El)))
    (cond s0.1.isNone
     (jx (bp s0.1 [⟨eJ.k,j9 .i64 (eJ.n+a2)⟩]) fun fV=>
     I (.inl (fV,El,j9 .i64 (s0.2.2.1+1),El)))
     (E5)))
   (cond s0.2.2.2
    (jx (bp s0.1 [eJ]) fun gq=>
    I (.inl (gq,s0.2.1,j9 .i64 (s0.2.2.1+1),El)))
    (cond s0.1.isNone
     (jx (bp s0.1 [eJ]) fun oG=>
     I (.inl (oG,s0.2.1,j9 .i64 (s0.2.2.1+1),El)))
     (E5))))
  (I (.inr (s0.1,s0.2.2.2,s0.2.1,s0.2.2.1)))
def Bi (a0:Option (List qk))(a1:List UInt8)(a2:Int)(s0:(Option (List qk))×Bool×Int×Bool):qh:=⟨[(0,sl 2 aV a0,Eh),(1,.str a1,Eh),(2,Iv a2,Eh),(7,sl 2 aV s0.1,s0.2.2.2),(8,.bool s0.2.1,Eh),(9,Iv s0.2.2.1,Eh)],[]⟩
def Il (a0:Option (List qk))(a1:List UInt8)(a2:Int)(d:((Option (List qk))×Bool×Bool×Int)):qo×qh:=(.exit 0,⟨[(0,sl 2 aV a0,Eh),(1,.str a1,Eh),(2,Iv a2,Eh),(7,sl 2 aV d.1,d.2.1),(8,.bool d.2.2.1,Eh),(9,Iv d.2.2.2,Eh),(14,.bool Eh,Eh)],[]⟩)
theorem jue (a0:Option (List qk))(a1:List UInt8)(a2:Int)(s0:(Option (List qk))×Bool×Int×Bool)(r)(h:AW a0 a1 a2 s0=I r):y5 pr Io (Bi a0 a1 a2) (Il a0 a1 a2) s0 r:=by
 unfold AW at h
 repeat' first|(replace h:=jy h;obtain⟨d,g,h⟩:=h;with_reducible first|replace g:=AF g|skip)|(replace h:=j6 h;rcases h with⟨g,h⟩|⟨g,h⟩)|fail
 all_goals (cases h<;>(first|(refine z6 ?_;simp only[go_sem,seval,Io,Bi,zn,Il, *]<;>rfl)|(refine q53 ?_ rfl (by first|simp only[go_sem,seval,Bi]|rfl) (by first|simp only[go_sem,seval,Bi]|rfl);simp only[go_sem,seval,Io,Bi,zn,Il, *];exact⟨_,rfl⟩)))
theorem jt3 (a0:Option (List qk))(a1:List UInt8)(a2:Int){s0:(Option (List qk))×Bool×Int×Bool}{d}(h:bj (AW a0 a1 a2) s0=I d):X pr (.loop Io) (Bi a0 a1 a2 s0)=I (Il a0 a1 a2 d):=kl (jue a0 a1 a2) (fun d hh=>by cases hh) h
def f252 (a0:Option (List qk))(a1:List UInt8)(a2:Int):Option ((Option (List qk))×Bool):=
 jx (bj (AW a0 a1 a2) (E5,Eh,0,Eh)) fun d37=>
 cond d37.2.2.1
  (I (d37.1,d37.2.1))
  (cond d37.2.1
   (jx (bp d37.1 [⟨a1,a2⟩]) fun px=>
   I (px,El))
   (cond d37.1.isNone
    (jx (bp d37.1 [⟨a1,a2⟩]) fun vi=>
    I (vi,El))
    (E5)))
theorem zb6 {a0:Option (List qk)}{a1:List UInt8}{a2:Int}{r}(h:f252 a0 a1 a2=I r):jz pr (X pr) 252 [sl 2 aV a0,.str a1,Iv a2]=I (sl 2 aV r.1,r.2):=by
 unfold f252 at h
 refine eh wx ?_
 repeat' first|(replace h:=jy h;obtain⟨d,g,h⟩:=h;with_reducible first|replace g:=AF g|(replace g:=jt3 a0 a1 a2 g;dsimp only[Bi,Il,ki]at g h)|skip)|(replace h:=j6 h;rcases h with⟨g,h⟩|⟨g,h⟩)|fail
 all_goals (cases h<;>(simp only[go_sem,seval,wx, *];exact⟨_,rfl⟩))
def f124 (a0:qc)(a1:ql):Option (qc×Int):=
 jx (zq (a1.names.getD []) 0) fun v1=>
 cond (decide (a1.kind=([108,111,116]:List UInt8)))
  (jx (f28 a0 v1) fun v4=>
  cond (decide (0≤v4))
   (I (a0,9))
   (jx (zq (a1.values.getD []) 1) fun v7=>
   jx (f59 v7 1 10000) fun v9=>
   cond v9
    (I (a0,3))
    (cond (decide (64≤((a0.aq.getD []).length:Int)))
     (I (a0,5))
     (jx (bp (I []) (a0.aq.getD [])) fun dq=>
     jx (zq (a1.names.getD []) 1) fun da=>
     jx (bp dq [⟨v1,da,v7,v7,Eh⟩]) fun dr=>
     I (⟨a0.day,dr,a0.ae,a0.units⟩,0)))))
  (cond (decide (a1.kind=([112,114,111,100,117,99,116]:List UInt8)))
   (jx (f144 a0 v1) fun v20=>
   cond (decide (0≤v20))
    (I (a0,9))
    (cond (decide (16≤((a0.ae.getD []).length:Int)))
     (I (a0,5))
     (jx (bp (I []) (a0.ae.getD [])) fun v24=>
     jx (bp v24 [⟨v1,E5,E5,E5⟩]) fun dM=>
     I (⟨a0.day,a0.aq,dM,a0.units⟩,0))))
   (jx (zq (a1.names.getD []) 1) fun v28=>
   jx (f144 a0 v28) fun v30=>
   cond (decide (v30<0))
    (I (a0,10))
    (jx (f27 a0 v1) fun wy=>
    cond (decide (0≤wy))
     (I (a0,9))
     (jx (zq (a0.ae.getD []) v30) fun yE=>
     cond (decide (((yE.aO.getD []).length:Int)=0))
      (I (a0,32))
      (cond (decide (256≤((a0.units.getD []).length:Int)))
       (I (a0,5))
       (jx (bp (I []) (a0.units.getD [])) fun v40=>
       jx (bp v40 [⟨v1,v28,((yE.aO.getD []).length:Int),E5,E5,[],Eh,0⟩]) fun Wg=>
       I (⟨a0.day,a0.aq,a0.ae,Wg⟩,0)))))))
theorem zfm {a0:qc}{a1:ql}{r}(h:f124 a0 a1=I r):jz pr (X pr) 124 [aR a0,aE a1]=I (.az [aR r.1,Iv r.2],Eh):=by
 unfold f124 at h
 refine yt wz ?_
 repeat' first|(replace h:=jy h;obtain⟨d,g,h⟩:=h; (with_reducible first|replace g:=Eu g|replace g:=Wh g|replace g:=N6 g|replace g:=N7 g|replace g:=UW g|replace g:=q4b g|replace g:=UX g|skip);try dsimp only[ki,jN,List.map,kn,yp,z8,zu,bf,y8,vev,aV,zz,dp,aE,aR,aU,aL,aP,aD]at g)|(replace h:=j6 h;rcases h with⟨g,h⟩|⟨g,h⟩)|fail
 all_goals (cases h<;>(simp only[go_sem,seval,wz,zn,lX, *];exact⟨_,rfl⟩))
end Go.Z
end
