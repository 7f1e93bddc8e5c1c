/- Chapter 10. -/
import Derived.Test.YtimdocpnkimlfaaGreatDoorV0
import Derived.Test.YtimdocpnkimlfaaGreatDoorW8
set_option linter.unusedVariables false
set_option linter.unusedSimpArgs false
set_option maxRecDepth 100000
set_option maxHeartbeats 4000000
noncomputable section
open Option renaming some→I,none→Gs
open Bool renaming false→En,true→Ey,and_self→Gq
open List renaming length_set→Gn,length_map→Gv,all→Gw
open Nat renaming le_of_ble_eq_true→Gp,ble_eq_true_of_le→Gt
namespace Go.Z
open Go Go.Abs Go.W
theorem FM {α:Type}{f:α→AVal}{sz}(E:pv f sz){l i o x y u}(hx:l[i]?=I x)(ho:o<sz)(hy:(f y).flat=(f x).flat.set o u)(w:Bool):((bJ f l).set (i*sz+o) (u,w)).map (·.1)=ze f (l.set i y):=by
 have h:=congrArg (List.map (·.1)) (q7c E.len hx ho hy)
 rw[List.map_set]at h ⊢
 rw[show(bJ f (l.set i y)).map (·.1)=ze f (l.set i y)from yc]at h
 exact h
theorem Kb {α:Type}{f:α→AVal}{sz}(E:pv f sz){l i o x}(hx:l[i]?=I x)(ho:o<sz):i*sz+o<(bJ f l).length:=by
 have h:=(E4 (n:=1) (o:=o) E.len hx (by omega)).2
 simp only[bJ,cellsOf,Gv]
 omega
def Cm (c:Int)(nm k:List UInt8)(x:aS):Option aS:=cond (decide (c=0))
 (qa (IX x.dn nm) fun v=>I { x with dn:=v.1 })
 (qa (IQ x.dn ⟨k,c⟩ nm) fun v=>I { x with dn:=v.1 })
theorem zln {l:List aS}{i:Nat}{x y c nm k}(hx:l[i]?=I x)(h:Cm c nm k x=I y):
  ∃cs,qm pr (X pr) 213 [.ptr 0 (i*4+1),.ah (Iv c),.ah (.fn (.func 211) [] [.ah (.str nm)]),.ah (.str k)] [.cells (bJ qv l)]=I (.aB [],En,[.cells cs])∧cs.map (·.1)=ze qv (l.set i y):=by
 unfold Cm at h
 have ld:zn (bJ qv l) (i*4+1) 1=I [sl 2 bn x.dn]:=vN (o:=1) cN.len hx (by decide)
 have hb:=Kb cN (o:=1) hx (by decide)
 rcases qd h with⟨h1,h⟩|⟨h1,h⟩
 ·obtain⟨v,hv,h⟩:=qb h
  cases h
  have w:=zga [.cells (bJ qv l)] hv
  rcases v with⟨v,o⟩
  have hy:(qv { x with dn:=v }).flat=(qv x).flat.set 1 (sl 2 bn v):=rfl
  have st:jw (bJ qv l) (i*4+1) [sl 2 bn v]=I (bJ qv (l.set i { x with dn:=v })):=mO (o:=1) cN.len hx (Gp rfl) (by simp only[Gw,go_sem,Gq]) rfl
  cases o with
  |true=>exact⟨_,by rw[qn (show pr.bQ 213=I jA from rfl) (by simp)];simp only[go_sem,seval,jA,h1,ld,w,hb]<;>rfl,FM cN hx (by decide) hy Ey⟩
  |false=>exact⟨_,by rw[qn (show pr.bQ 213=I jA from rfl) (by simp)];simp only[go_sem,seval,jA,h1,ld,w,st]<;>rfl,yc⟩
 ·obtain⟨v,hv,h⟩:=qb h
  cases h
  have w:qc pr (X pr) 216 [sl 2 bn x.dn,.agg [.str k,Iv c],.fn (.func 211) [] [.ah (.str nm)]]=I (sl 2 bn v.1,v.2):=zl2 hv
  rcases v with⟨v,o⟩
  have hy:(qv { x with dn:=v }).flat=(qv x).flat.set 1 (sl 2 bn v):=rfl
  have st:jw (bJ qv l) (i*4+1) [sl 2 bn v]=I (bJ qv (l.set i { x with dn:=v })):=mO (o:=1) cN.len hx (Gp rfl) (by simp only[Gw,go_sem,Gq]) rfl
  cases o with
  |true=>exact⟨_,by rw[qn (show pr.bQ 213=I jA from rfl) (by simp)];simp only[go_sem,seval,jA,h1,ld,w,hb]<;>rfl,FM cN hx (by decide) hy Ey⟩
  |false=>exact⟨_,by rw[qn (show pr.bQ 213=I jA from rfl) (by simp)];simp only[go_sem,seval,jA,h1,ld,w,st]<;>rfl,yc⟩
def XP (l:Option (List aS))(i:Int)(c:Int)(nm k:List UInt8):Option (Option (List aS)):=gD l i (Cm c nm k)
theorem jkm {l i c nm k r}(h:XP l i c nm k=I r):qc pr (X pr) 221 [sl 4 qv l,Iv i,.fn (.func 270) [] [.ah (.fn (.func 213) [] [.ah (Iv c),.ah (.fn (.func 211) [] [.ah (.str nm)]),.ah (.str k)])]]=I (sl 4 qv r,En):=by
 refine Y2 (fun n x y hx hy=>?_) h
 obtain⟨cs,h1,h2⟩:=zln hx hy
 exact⟨cs,by rw[qn (show pr.bQ 270=I nZ from rfl) (by simp)];simp only[go_sem,seval,nZ,h1]<;>rfl,h2⟩
def Je (t s:je)(x:aS):Option aS:=qa (IV x.dt t s) fun v=>I { x with dt:=v.1 }
theorem zdv {l:List aS}{i:Nat}{x y t s}(hx:l[i]?=I x)(h:Je t s x=I y):
  ∃cs,qm pr (X pr) 219 [.ptr 0 (i*4+1),.ah (ja t),.ah (.fn (.func 217) [] [.ah (ja s)])] [.cells (bJ qv l)]=I (.aB [],En,[.cells cs])∧cs.map (·.1)=ze qv (l.set i y):=by
 unfold Je at h
 have ld:zn (bJ qv l) (i*4+1+1) 1=I [sl 3 ja x.dt]:=vN (o:=2) cN.len hx (by decide)
 have hb:i*4+1+1<(bJ qv l).length:=Kb cN (o:=2) hx (by decide)
 obtain⟨v,hv,h⟩:=qb h
 cases h
 have w:qc pr (X pr) 220 [sl 3 ja x.dt,aT t,.fn (.func 217) [] [.ah (aT s)]]=I (sl 3 ja v.1,v.2):=ze8 hv
 rcases v with⟨v,o⟩
 have hy:(qv { x with dt:=v }).flat=(qv x).flat.set 2 (sl 3 ja v):=rfl
 have st:jw (bJ qv l) (i*4+1+1) [sl 3 ja v]=I (bJ qv (l.set i { x with dt:=v })):=mO (o:=2) cN.len hx (Gp rfl) (by simp only[Gw,go_sem,Gq]) rfl
 cases o with
 |true=>exact⟨_,by rw[qn (show pr.bQ 219=I n5 from rfl) (by simp)];simp only[go_sem,seval,n5,ja,ld,w,hb]<;>rfl,FM cN (o:=2) hx (by decide) hy Ey⟩
 |false=>exact⟨_,by rw[qn (show pr.bQ 219=I n5 from rfl) (by simp)];simp only[go_sem,seval,n5,ja,ld,w,st]<;>rfl,yc⟩
def XQ (l:Option (List aS))(i:Int)(t s:je):Option (Option (List aS)):=gD l i (Je t s)
theorem jim {l i t s r}(h:XQ l i t s=I r):qc pr (X pr) 221 [sl 4 qv l,Iv i,.fn (.func 270) [] [.ah (.fn (.func 219) [] [.ah (ja t),.ah (.fn (.func 217) [] [.ah (ja s)])])]]=I (sl 4 qv r,En):=by
 refine Y2 (fun n x y hx hy=>?_) h
 obtain⟨cs,h1,h2⟩:=zdv hx hy
 simp only[jgj]at h1
 exact⟨cs,by rw[qn (show pr.bQ 270=I nZ from rfl) (by simp)];simp only[go_sem,seval,nZ,h1]<;>rfl,h2⟩
def NC (x:aS):Option aS:=qa (f224 ⟨x.dn,x.dt⟩) fun d=>qa (Nt x.aM d) fun v=>I { x with aM:=v }
theorem zc2 {l:List aS}{i:Nat}{x y}(hx:l[i]?=I x)(h:NC x=I y):
  ∃cs,qm pr (X pr) 222 [.ptr 0 (i*4)] [.cells (bJ qv l)]=I (.aB [],En,[.cells cs])∧cs.map (·.1)=ze qv (l.set i y):=by
 unfold NC at h
 have ld:zn (bJ qv l) (i*4+3) 1=I [sl 2 yq x.aM]:=vN (o:=3) cN.len hx (by decide)
 have Y8:zn (bJ qv l) (i*4+1) 2=I [sl 2 bn x.dn,sl 3 ja x.dt]:=vN (o:=1) cN.len hx (by decide)
 have hb:i*4+3<(bJ qv l).length:=Kb cN (o:=3) hx (by decide)
 obtain⟨d,hd,h⟩:=qb h
 obtain⟨v,hv,h⟩:=qb h
 cases h
 have w:qc pr (X pr) 224 [.agg [sl 2 bn x.dn,sl 3 ja x.dt]]=I (aD d,En):=zlu hd
 have w2:qc pr (X pr) 223 [sl 2 yq x.aM,aD d]=I (sl 2 yq v,Ey):=zed hv
 have hy:(qv { x with aM:=v }).flat=(qv x).flat.set 3 (sl 2 yq v):=rfl
 exact⟨_,by rw[qn (show pr.bQ 222=I tm from rfl) (by simp)];simp only[go_sem,seval,tm,ld,Y8,w,w2,hb]<;>rfl,FM cN (o:=3) hx (by decide) hy Ey⟩
def NB (l:Option (List aS))(i:Int):Option (Option (List aS)):=gD l i NC
theorem jm6 {l i r}(h:NB l i=I r):qc pr (X pr) 221 [sl 4 qv l,Iv i,.fn (.func 222) [] []]=I (sl 4 qv r,En):=
 Y2 (fun n x y hx hy=>zc2 hx hy) h
def ND (e:GEv)(x:ay):Option ay:=qa (qr (e.names.getD []) 1) fun n=>qa (qr (e.values.getD []) 1) fun b=>qa (Nv x.results ⟨n,x.version,b⟩) fun v=>I { x with results:=v }
theorem zcx {l:List ay}{i:Nat}{x y e}(hx:l[i]?=I x)(h:ND e x=I y):
  ∃cs,qm pr (X pr) 235 [.ptr 0 (i*8),.ah (vev e)] [.cells (bJ aY l)]=I (.aB [],En,[.cells cs])∧cs.map (·.1)=ze aY (l.set i y):=by
 unfold ND at h
 have ld:zn (bJ aY l) (i*8+4) 1=I [sl 3 ja x.results]:=vN (o:=4) et.len hx (by decide)
 have Y8:zn (bJ aY l) (i*8+2) 1=I [Iv x.version]:=vN (o:=2) et.len hx (by decide)
 have hb:i*8+4<(bJ aY l).length:=Kb et (o:=4) hx (by decide)
 obtain⟨n,hn,h⟩:=qb h
 obtain⟨b,ER,h⟩:=qb h
 obtain⟨v,hv,h⟩:=qb h
 cases h
 have w:qc pr (X pr) 236 [sl 3 ja x.results,.agg [.str n,Iv x.version,Iv b]]=I (sl 3 ja v,Ey):=ze2 hv
 have hy:(aY { x with results:=v }).flat=(aY x).flat.set 4 (sl 3 ja v):=rfl
 exact⟨_,by rw[qn (show pr.bQ 235=I tn from rfl) (by simp)];simp only[go_sem,seval,tn,vev,yb hn,yb ER,ld,Y8,w,hb]<;>rfl,FM et (o:=4) hx (by decide) hy Ey⟩
def XX (l:Option (List ay))(i:Int)(e:GEv):Option (Option (List ay)):=gD l i (ND e)
theorem jis {l i e r}(h:XX l i e=I r):qc pr (X pr) 231 [sl 8 aY l,Iv i,.fn (.func 235) [] [.ah (vev e)]]=I (sl 8 aY r,En):=
 FL (fun n x y hx hy=>zcx hx hy) h
def Ft (s:bq)(t:jd)(x:ay):Option ay:=qa (IW x.uses s t) fun v=>I { x with uses:=v.1 }
theorem jvy {b0 b1 b2 eJ:bh}{l:List ay}{i x y s t}(hx:l[i]?=I x)(h:Ft s t x=I y):
  ∃cs,qm pr (X pr) 232 [.ptr 5 (i*8),.ptr 4 0,.ah (.fn (.func 229) [] [.ah (jc t)])] [b0,b1,b2,eJ,.cells [(.str s.k,En),(Iv s.n,En)],.cells (bJ aY l)]=I (.aB [],En,[b0,b1,b2,eJ,.cells [(.str s.k,En),(Iv s.n,En)],.cells cs])∧cs.map (·.1)=ze aY (l.set i y):=by
 unfold Ft at h
 have ld:zn (bJ aY l) (i*8+3) 1=I [sl 2 bn x.uses]:=vN (o:=3) et.len hx (by decide)
 have hb:i*8+3<(bJ aY l).length:=Kb et (o:=3) hx (by decide)
 obtain⟨v,hv,h⟩:=qb h
 cases h
 have w:qc pr (X pr) 233 [sl 2 bn x.uses,aN s,.fn (.func 229) [] [.ah (aL t)]]=I (sl 2 bn v.1,v.2):=zdg hv
 rcases v with⟨v,o⟩
 have hy:(aY { x with uses:=v }).flat=(aY x).flat.set 3 (sl 2 bn v):=rfl
 have st:jw (bJ aY l) (i*8+3) [sl 2 bn v]=I (bJ aY (l.set i { x with uses:=v })):=mO (o:=3) et.len hx (Gp rfl) (by simp only[Gw,go_sem,Gq]) rfl
 cases o with
 |true=>exact⟨_,by rw[qn (show pr.bQ 232=I n6 from rfl) (by simp)];simp only[go_sem,seval,n6,jc,ld,w,hb]<;>rfl,FM et (o:=3) hx (by decide) hy Ey⟩
 |false=>exact⟨_,by rw[qn (show pr.bQ 232=I n6 from rfl) (by simp)];simp only[go_sem,seval,n6,jc,ld,w,st]<;>rfl,yc⟩
end Go.Z
namespace Go.Z
open Go Go.Abs Go.W
def Ci {α:Type}(l:Option (List α))(i:Int)(x:α):Option (Option (List α)):=
 if(l.getD []).length≤1073741824∧0≤i∧i<(l.getD []).length then I (I ((l.getD []).set i.toNat x))else Gs
theorem Y9 {α:Type}{l:Option (List α)}{i x r}(h:Ci l i x=I r):∃(n:Nat),i=(n:Int)∧(l.getD []).length≤1073741824∧n<(l.getD []).length∧r=I ((l.getD []).set n x):=by
 unfold Ci at h
 split at h
 ·rename_i hc
  cases h
  exact⟨i.toNat,(Int.toNat_of_nonneg hc.2.1).symm,hc.1,by omega,rfl⟩
 ·cases h
section
variable {α:Type}{f:α→AVal}{sz:Nat}{h:qh}
theorem jcm {l}:cellsOf ((l.map f).flatMap AVal.flat)=bJ f l:=rfl
theorem Za (E:pv f sz){n0 r b t l}(hl:(l.getD []).length≤1073741824)(hb:b≤4096){h'}(hh:aJ n0 h r (.cells (bJ f (l.getD [])))=I h'):CA n0 r sz b h (I t) (I (.list En sz [])) (I (sl sz f l))=I ⟨.ms (n0+r) 0 (l.getD []).length,En,I t,h'⟩:=by
 have hs:z7 sz (sl sz f l)=I ((l.getD []).map f):=W8
 have h1:0<sz:=by have:=E.big;omega
 simp only[CA]
 rw[hs]
 simp only[Option.isSome_some,Nat.beq_refl,Gq,cond_true,Gv,Gt hl,Gt hb,Nat.blt_eq.mpr h1,jcm,hh]
theorem Zb (E:pv f sz){l i y}(hi:i<l.length):jw (bJ f l) (i*sz) (f y).flat=I (bJ f (l.set i y)):=by
 have hx:l[i]?=I l[i]:=List.getElem?_eq_getElem hi
 have hl:=E.len l[i]
 have hly:=E.len y
 have:=mO (o:=0) (us:=(f y).flat) (y:=y) E.len hx (by omega) (E.sc y) (by rw[List.take_zero,List.nil_append,List.drop_eq_nil_of_le (by omega),List.append_nil])
 rw[Nat.add_zero]at this
 exact this
end
def zZ (a0:aj)(a1:Int)(x:jd):Option aj:=qa (Ci a0.lots a1 x) fun v=>I { a0 with lots:=v }
theorem jyo {a0:aj}{a1:Int}{x r}(h:zZ a0 a1 x=I r):qc pr (X pr) 262 [aR a0,Iv a1,aL x]=I (aR r,En):=by
 obtain⟨v,hv,h⟩:=qb h
 cases h
 obtain⟨n,rfl,hl,hi,rfl⟩:=Y9 hv
 have ap:CA 2 0 5 56 [kR a0.day a0.lots a0.ae a0.units,kZ,.hole] (I 7) (I (.list En 5 [])) (I (sl 5 jc a0.lots))=I ⟨.ms 2 0 (a0.lots.getD []).length,En,I 7,[kR a0.day a0.lots a0.ae a0.units,kZ,.cells (bJ jc (a0.lots.getD []))]⟩:=by apply Za gE<;>first|exact hl|rfl|decide
 have st:jw (bJ jc (a0.lots.getD [])) (n*5) [.str x.name,.str x.kind,Iv x.count,Iv x.left,.bool x.held]=I (bJ jc ((a0.lots.getD []).set n x)):=Zb (y:=x) gE hi
 have this:qm pr (X pr) 262 [aR a0,Iv (n:Int),aL x] []=I (.agg [Iv a0.day,.ms 2 0 (a0.lots.getD []).length,sl 4 qv a0.ae,sl 8 aY a0.units],En,[.cells [(Iv a0.day,En),(.ms 2 0 (a0.lots.getD []).length,En),(sl 4 qv a0.ae,En),(sl 8 aY a0.units,En)],.cells [(Iv a0.day,En),(.ms 2 0 (a0.lots.getD []).length,En),(sl 4 qv a0.ae,En),(sl 8 aY a0.units,En)],.cells (bJ jc ((a0.lots.getD []).set n x))]):=by
  rw[qn (show pr.bQ 262=I tq from rfl) (by simp)]
  simp only[go_sem,seval,tq,ap,wu hi,st]<;>rfl
 have fz:kx [.cells [(Iv a0.day,En),(.ms 2 0 (a0.lots.getD []).length,En),(sl 4 qv a0.ae,En),(sl 8 aY a0.units,En)],.cells [(Iv a0.day,En),(.ms 2 0 (a0.lots.getD []).length,En),(sl 4 qv a0.ae,En),(sl 8 aY a0.units,En)],.cells (bJ jc ((a0.lots.getD []).set n x))] (.ms 2 0 (a0.lots.getD []).length)=I (sl 5 jc (I ((a0.lots.getD []).set n x))):=by
  have:=wo gE (l:=(a0.lots.getD []).set n x) (by rw[Gn];omega) (cs:=bJ jc ((a0.lots.getD []).set n x)) yc
  rw[Gn]at this
  exact this
 refine yd rfl this (v':=.agg [Iv a0.day,sl 5 jc (I ((a0.lots.getD []).set n x)),sl 4 qv a0.ae,sl 8 aY a0.units]) ?_ (by first|rfl|simp only[go_sem,seval])
 rw[Xf]
 simp only[go_sem,seval,fz]<;>rfl
def Aa (a0:aj)(a1:Int)(x:aS):Option aj:=qa (Ci a0.ae a1 x) fun v=>I { a0 with ae:=v }
theorem zhq {a0:aj}{a1:Int}{x r}(h:Aa a0 a1 x=I r):qc pr (X pr) 261 [aR a0,Iv a1,aP x]=I (aR r,En):=by
 obtain⟨v,hv,h⟩:=qb h
 cases h
 obtain⟨n,rfl,hl,hi,rfl⟩:=Y9 hv
 have ap:CA 2 0 4 88 [kR a0.day a0.lots a0.ae a0.units,kZ,.hole] (I 7) (I (.list En 4 [])) (I (sl 4 qv a0.ae))=I ⟨.ms 2 0 (a0.ae.getD []).length,En,I 7,[kR a0.day a0.lots a0.ae a0.units,kZ,.cells (bJ qv (a0.ae.getD []))]⟩:=by apply Za cN<;>first|exact hl|rfl|decide
 have st:jw (bJ qv (a0.ae.getD [])) (n*4) [.str x.name,sl 2 bn x.dn,sl 3 ja x.dt,sl 2 yq x.aM]=I (bJ qv ((a0.ae.getD []).set n x)):=Zb (y:=x) cN hi
 have this:qm pr (X pr) 261 [aR a0,Iv (n:Int),aP x] []=I (.agg [Iv a0.day,sl 5 jc a0.lots,.ms 2 0 (a0.ae.getD []).length,sl 8 aY a0.units],En,[.cells [(Iv a0.day,En),(sl 5 jc a0.lots,En),(.ms 2 0 (a0.ae.getD []).length,En),(sl 8 aY a0.units,En)],.cells [(Iv a0.day,En),(sl 5 jc a0.lots,En),(.ms 2 0 (a0.ae.getD []).length,En),(sl 8 aY a0.units,En)],.cells (bJ qv ((a0.ae.getD []).set n x))]):=by
  rw[qn (show pr.bQ 261=I tr from rfl) (by simp)]
  simp only[go_sem,seval,tr,ap,wu hi,st]<;>rfl
 have fz:kx [.cells [(Iv a0.day,En),(sl 5 jc a0.lots,En),(.ms 2 0 (a0.ae.getD []).length,En),(sl 8 aY a0.units,En)],.cells [(Iv a0.day,En),(sl 5 jc a0.lots,En),(.ms 2 0 (a0.ae.getD []).length,En),(sl 8 aY a0.units,En)],.cells (bJ qv ((a0.ae.getD []).set n x))] (.ms 2 0 (a0.ae.getD []).length)=I (sl 4 qv (I ((a0.ae.getD []).set n x))):=by
  have:=wo cN (l:=(a0.ae.getD []).set n x) (by rw[Gn];omega) (cs:=bJ qv ((a0.ae.getD []).set n x)) yc
  rw[Gn]at this
  exact this
 refine yd rfl this (v':=.agg [Iv a0.day,sl 5 jc a0.lots,sl 4 qv (I ((a0.ae.getD []).set n x)),sl 8 aY a0.units]) ?_ (by first|rfl|simp only[go_sem,seval])
 rw[Xf]
 simp only[go_sem,seval,fz]<;>rfl
def f267 (a0:aj)(a1:Int)(x:ay):Option aj:=qa (Ci a0.units a1 x) fun v=>I { a0 with units:=v }
theorem Zc {a0:aj}{a1:Int}{x r}(h:f267 a0 a1 x=I r):qc pr (X pr) 267 [aR a0,Iv a1,aU x]=I (aR r,En):=by
 obtain⟨v,hv,h⟩:=qb h
 cases h
 obtain⟨n,rfl,hl,hi,rfl⟩:=Y9 hv
 have ap:CA 2 0 8 120 [kR a0.day a0.lots a0.ae a0.units,kZ,.hole] (I 7) (I (.list En 8 [])) (I (sl 8 aY a0.units))=I ⟨.ms 2 0 (a0.units.getD []).length,En,I 7,[kR a0.day a0.lots a0.ae a0.units,kZ,.cells (bJ aY (a0.units.getD []))]⟩:=by apply Za et<;>first|exact hl|rfl|decide
 have st:jw (bJ aY (a0.units.getD [])) (n*8) [.str x.name,.str x.product,Iv x.version,sl 2 bn x.uses,sl 3 ja x.results,.str x.partner,.bool x.shipped,Iv x.ai]=I (bJ aY ((a0.units.getD []).set n x)):=Zb (y:=x) et hi
 have this:qm pr (X pr) 267 [aR a0,Iv (n:Int),aU x] []=I (.agg [Iv a0.day,sl 5 jc a0.lots,sl 4 qv a0.ae,.ms 2 0 (a0.units.getD []).length],En,[.cells [(Iv a0.day,En),(sl 5 jc a0.lots,En),(sl 4 qv a0.ae,En),(.ms 2 0 (a0.units.getD []).length,En)],.cells [(Iv a0.day,En),(sl 5 jc a0.lots,En),(sl 4 qv a0.ae,En),(.ms 2 0 (a0.units.getD []).length,En)],.cells (bJ aY ((a0.units.getD []).set n x))]):=by
  rw[qn (show pr.bQ 267=I tu from rfl) (by simp)]
  simp only[go_sem,seval,tu,ap,wu hi,st]<;>rfl
 have fz:kx [.cells [(Iv a0.day,En),(sl 5 jc a0.lots,En),(sl 4 qv a0.ae,En),(.ms 2 0 (a0.units.getD []).length,En)],.cells [(Iv a0.day,En),(sl 5 jc a0.lots,En),(sl 4 qv a0.ae,En),(.ms 2 0 (a0.units.getD []).length,En)],.cells (bJ aY ((a0.units.getD []).set n x))] (.ms 2 0 (a0.units.getD []).length)=I (sl 8 aY (I ((a0.units.getD []).set n x))):=by
  have:=wo et (l:=(a0.units.getD []).set n x) (by rw[Gn];omega) (cs:=bJ aY ((a0.units.getD []).set n x)) yc
  rw[Gn]at this
  exact this
 refine yd rfl this (v':=.agg [Iv a0.day,sl 5 jc a0.lots,sl 4 qv a0.ae,sl 8 aY (I ((a0.units.getD []).set n x))]) ?_ (by first|rfl|simp only[go_sem,seval])
 rw[Xf]
 simp only[go_sem,seval,fz]<;>rfl
end Go.Z
namespace Go.Z
open Go Go.Abs Go.W
def Cj (a0:Option (List bq))(a1:bq)(s0:(Option (List bq))×Bool×Int×Bool):Option (((Option (List bq))×Bool×Int×Bool)⊕(((Option (List bq))×Bool×Bool×Int))):=
 cond (decide (s0.2.2.1<((a0.getD []).length:Int)))
  (qa (qr (a0.getD []) s0.2.2.1) fun v24=>
  cond (decide (v24.k=a1.k))
   (cond (decide (0<a1.n))
    (cond s0.2.2.2
     (qa (bH s0.1 [a1]) fun ik=>
     I (.inl (ik,Ey,qe .i64 (s0.2.2.1+1),Ey)))
     (cond s0.1.isNone
      (qa (bH s0.1 [a1]) fun lG=>
      I (.inl (lG,Ey,qe .i64 (s0.2.2.1+1),Ey)))
      (Gs)))
    (I (.inl (s0.1,Ey,qe .i64 (s0.2.2.1+1),s0.2.2.2))))
   (cond s0.2.2.2
    (qa (bH s0.1 [v24]) fun xE=>
    I (.inl (xE,s0.2.1,qe .i64 (s0.2.2.1+1),Ey)))
    (cond s0.1.isNone
     (qa (bH s0.1 [v24]) fun CX=>
     I (.inl (CX,s0.2.1,qe .i64 (s0.2.2.1+1),Ey)))
     (Gs))))
  (I (.inr (s0.1,s0.2.2.2,s0.2.1,s0.2.2.1)))
def OZ (a0:Option (List bq))(a1:bq)(s0:(Option (List bq))×Bool×Int×Bool):bf:=⟨[(0,sl 2 bn a0,En),(3,.ah (aN a1),En),(5,sl 2 bn s0.1,s0.2.2.2),(6,.bool s0.2.1,En),(7,Iv s0.2.2.1,En)],[]⟩
def O0 (a0:Option (List bq))(a1:bq)(d:((Option (List bq))×Bool×Bool×Int)):jf×bf:=(.exit 0,⟨[(0,sl 2 bn a0,En),(3,.ah (aN a1),En),(5,sl 2 bn d.1,d.2.1),(6,.bool d.2.2.1,En),(7,Iv d.2.2.2,En),(11,.bool En,En)],[]⟩)
theorem js9 (a0:Option (List bq))(a1:bq)(s0:(Option (List bq))×Bool×Int×Bool)(r)(h:Cj a0 a1 s0=I r):jz pr O1 (OZ a0 a1) (O0 a0 a1) s0 r:=by
 unfold Cj at h
 repeat' first|(replace h:=qb h;obtain⟨d,g,h⟩:=h;with_reducible first|replace g:=B4 g|skip)|(replace h:=qd h;rcases h with⟨g,h⟩|⟨g,h⟩)
 all_goals (cases h<;>((first|refine qz ?_|refine jp ?_);simp only[go_sem,seval,O1,OZ,jg,O0, *]<;>rfl))
theorem jzd (a0:Option (List bq))(a1:bq){s0 d}(h:bm (Cj a0 a1) s0=I d):X pr (.loop O1) (OZ a0 a1 s0)=I (O0 a0 a1 d):=zj (js9 a0 a1) h
def I9 (a0:Option (List bq))(a1:bq):Option ((Option (List bq))×Bool):=
 qa (bm (Cj a0 a1) (Gs,En,0,En)) fun d40=>
 cond d40.2.2.1
  (I (d40.1,d40.2.1))
  (cond (decide (0<a1.n))
   (cond d40.2.1
    (qa (bH d40.1 [a1]) fun Aw=>
    I (Aw,Ey))
    (cond d40.1.isNone
     (qa (bH d40.1 [a1]) fun Zd=>
     I (Zd,Ey))
     (Gs)))
   (I (d40.1,d40.2.1)))
theorem zi4 {a0 a1 r}(h:I9 a0 a1=I r):qc pr (X pr) 259 [sl 2 bn a0,aN a1]=I (sl 2 bn r.1,r.2):=by
 unfold I9 at h
 refine yv xF ?_
 repeat' first|(replace h:=qb h;obtain⟨d,g,h⟩:=h;with_reducible first|replace g:=B4 g|(replace g:=jzd a0 a1 g;dsimp only[OZ,O0,zk]at g h)|skip)|(replace h:=qd h;rcases h with⟨g,h⟩|⟨g,h⟩)
 all_goals (cases h<;>(simp only[go_sem,seval,xF, *];exact⟨_,rfl⟩))
def Ck (a0:Option (List je))(a1:je)(s0:(Option (List je))×Bool×Int×Bool):Option (((Option (List je))×Bool×Int×Bool)⊕(((Option (List je))×Bool×Bool×Int))):=
 cond (decide (s0.2.2.1<((a0.getD []).length:Int)))
  (qa (qr (a0.getD []) s0.2.2.1) fun v22=>
  cond (decide (v22.k=a1.k))
   (cond s0.2.2.2
    (qa (bH s0.1 [a1]) fun v26=>
    I (.inl (v26,Ey,qe .i64 (s0.2.2.1+1),Ey)))
    (cond s0.1.isNone
     (qa (bH s0.1 [a1]) fun ik=>
     I (.inl (ik,Ey,qe .i64 (s0.2.2.1+1),Ey)))
     (Gs)))
   (cond s0.2.2.2
    (qa (bH s0.1 [v22]) fun lG=>
    I (.inl (lG,s0.2.1,qe .i64 (s0.2.2.1+1),Ey)))
    (cond s0.1.isNone
     (qa (bH s0.1 [v22]) fun xE=>
     I (.inl (xE,s0.2.1,qe .i64 (s0.2.2.1+1),Ey)))
     (Gs))))
  (I (.inr (s0.1,s0.2.2.2,s0.2.1,s0.2.2.1)))
def O2 (a0:Option (List je))(a1:je)(s0:(Option (List je))×Bool×Int×Bool):bf:=⟨[(0,sl 3 ja a0,En),(3,.ah (aT a1),En),(5,sl 3 ja s0.1,s0.2.2.2),(6,.bool s0.2.1,En),(7,Iv s0.2.2.1,En)],[]⟩
def O3 (a0:Option (List je))(a1:je)(d:((Option (List je))×Bool×Bool×Int)):jf×bf:=(.exit 0,⟨[(0,sl 3 ja a0,En),(3,.ah (aT a1),En),(5,sl 3 ja d.1,d.2.1),(6,.bool d.2.2.1,En),(7,Iv d.2.2.2,En),(11,.bool En,En)],[]⟩)
theorem jud (a0:Option (List je))(a1:je)(s0:(Option (List je))×Bool×Int×Bool)(r)(h:Ck a0 a1 s0=I r):jz pr O4 (O2 a0 a1) (O3 a0 a1) s0 r:=by
 unfold Ck at h
 repeat' first|(replace h:=qb h;obtain⟨d,g,h⟩:=h;with_reducible first|replace g:=E6 g|skip)|(replace h:=qd h;rcases h with⟨g,h⟩|⟨g,h⟩)
 all_goals (cases h<;>((first|refine qz ?_|refine jp ?_);simp only[go_sem,seval,O4,O2,jg,O3, *]<;>rfl))
theorem jw3 (a0:Option (List je))(a1:je){s0 d}(h:bm (Ck a0 a1) s0=I d):X pr (.loop O4) (O2 a0 a1 s0)=I (O3 a0 a1 d):=zj (jud a0 a1) h
def f260 (a0:Option (List je))(a1:je):Option ((Option (List je))×Bool):=
 qa (bm (Ck a0 a1) (Gs,En,0,En)) fun d37=>
 cond d37.2.2.1
  (I (d37.1,d37.2.1))
  (cond d37.2.1
   (qa (bH d37.1 [a1]) fun CY=>
   I (CY,Ey))
   (cond d37.1.isNone
    (qa (bH d37.1 [a1]) fun CZ=>
    I (CZ,Ey))
    (Gs)))
theorem zkp {a0 a1 r}(h:f260 a0 a1=I r):qc pr (X pr) 260 [sl 3 ja a0,aT a1]=I (sl 3 ja r.1,r.2):=by
 unfold f260 at h
 refine yv xG ?_
 repeat' first|(replace h:=qb h;obtain⟨d,g,h⟩:=h;with_reducible first|replace g:=E6 g|(replace g:=jw3 a0 a1 g;dsimp only[O2,O3,zk]at g h)|skip)|(replace h:=qd h;rcases h with⟨g,h⟩|⟨g,h⟩)
 all_goals (cases h<;>(simp only[go_sem,seval,xG, *];exact⟨_,rfl⟩))
def Cl (a0:Option (List bq))(a1:List UInt8)(a2:Int)(s0:(Option (List bq))×Bool×Int×Bool):Option (((Option (List bq))×Bool×Int×Bool)⊕(((Option (List bq))×Bool×Bool×Int))):=
 cond (decide (s0.2.2.1<((a0.getD []).length:Int)))
  (qa (qr (a0.getD []) s0.2.2.1) fun v22=>
  cond (decide (v22.k=a1))
   (cond s0.2.2.2
    (qa (bH s0.1 [⟨v22.k,qe .i64 (v22.n+a2)⟩]) fun v26=>
    I (.inl (v26,Ey,qe .i64 (s0.2.2.1+1),Ey)))
    (cond s0.1.isNone
     (qa (bH s0.1 [⟨v22.k,qe .i64 (v22.n+a2)⟩]) fun ik=>
     I (.inl (ik,Ey,qe .i64 (s0.2.2.1+1),Ey)))
     (Gs)))
   (cond s0.2.2.2
    (qa (bH s0.1 [v22]) fun lG=>
    I (.inl (lG,s0.2.1,qe .i64 (s0.2.2.1+1),Ey)))
    (cond s0.1.isNone
     (qa (bH s0.1 [v22]) fun xE=>
     I (.inl (xE,s0.2.1,qe .i64 (s0.2.2.1+1),Ey)))
     (Gs))))
  (I (.inr (s0.1,s0.2.2.2,s0.2.1,s0.2.2.1)))
def C4 (a0:Option (List bq))(a1:List UInt8)(a2:Int)(s0:(Option (List bq))×Bool×Int×Bool):bf:=⟨[(0,sl 2 bn a0,En),(1,.str a1,En),(2,Iv a2,En),(7,sl 2 bn s0.1,s0.2.2.2),(8,.bool s0.2.1,En),(9,Iv s0.2.2.1,En)],[]⟩
def Kc (a0:Option (List bq))(a1:List UInt8)(a2:Int)(d:((Option (List bq))×Bool×Bool×Int)):jf×bf:=(.exit 0,⟨[(0,sl 2 bn a0,En),(1,.str a1,En),(2,Iv a2,En),(7,sl 2 bn d.1,d.2.1),(8,.bool d.2.2.1,En),(9,Iv d.2.2.2,En),(14,.bool En,En)],[]⟩)
theorem jva (a0:Option (List bq))(a1:List UInt8)(a2:Int)(s0:(Option (List bq))×Bool×Int×Bool)(r)(h:Cl a0 a1 a2 s0=I r):jz pr Ke (C4 a0 a1 a2) (Kc a0 a1 a2) s0 r:=by
 unfold Cl at h
 repeat' first|(replace h:=qb h;obtain⟨d,g,h⟩:=h;with_reducible first|replace g:=B4 g|skip)|(replace h:=qd h;rcases h with⟨g,h⟩|⟨g,h⟩)
 all_goals (cases h<;>(first|(refine qz ?_;simp only[go_sem,seval,Ke,C4,jg,Kc, *]<;>rfl)|(refine q9a ?_ rfl (by first|simp only[go_sem,seval,C4]|rfl) (by first|simp only[go_sem,seval,C4]|rfl);simp only[go_sem,seval,Ke,C4,jg,Kc, *];exact⟨_,rfl⟩)))
theorem jtq (a0:Option (List bq))(a1:List UInt8)(a2:Int){s0 d}(h:bm (Cl a0 a1 a2) s0=I d):X pr (.loop Ke) (C4 a0 a1 a2 s0)=I (Kc a0 a1 a2 d):=zj (jva a0 a1 a2) h
def Ja (a0:Option (List bq))(a1:List UInt8)(a2:Int):Option ((Option (List bq))×Bool):=
 qa (bm (Cl a0 a1 a2) (Gs,En,0,En)) fun d37=>
 cond d37.2.2.1
  (I (d37.1,d37.2.1))
  (cond d37.2.1
   (qa (bH d37.1 [⟨a1,a2⟩]) fun CY=>
   I (CY,Ey))
   (cond d37.1.isNone
    (qa (bH d37.1 [⟨a1,a2⟩]) fun CZ=>
    I (CZ,Ey))
    (Gs)))
theorem zfg {a0 a1 a2 r}(h:Ja a0 a1 a2=I r):qc pr (X pr) 298 [sl 2 bn a0,.str a1,Iv a2]=I (sl 2 bn r.1,r.2):=by
 unfold Ja at h
 refine yv xH ?_
 repeat' first|(replace h:=qb h;obtain⟨d,g,h⟩:=h;with_reducible first|replace g:=B4 g|(replace g:=jtq a0 a1 a2 g;dsimp only[C4,Kc,zk]at g h)|skip)|(replace h:=qd h;rcases h with⟨g,h⟩|⟨g,h⟩)
 all_goals (cases h<;>(simp only[go_sem,seval,xH, *];exact⟨_,rfl⟩))
def sg (a0:aj)(a1:GEv):Option (aj×Int):=
 qa (qr (a1.names.getD []) 0) fun v1=>
 cond (decide (a1.kind=([108,111,116]:List UInt8)))
  (qa (wW a0 v1) fun v4=>
  cond (decide (0≤v4))
   (I (a0,9))
   (qa (qr (a1.values.getD []) 1) fun v7=>
   qa (f88 v7 1 10000) fun v9=>
   cond v9
    (I (a0,3))
    (cond (decide (64≤((a0.lots.getD []).length:Int)))
     (I (a0,5))
     (qa (bH (I []) (a0.lots.getD [])) fun eQ=>
     qa (qr (a1.names.getD []) 1) fun fP=>
     qa (bH eQ [⟨v1,fP,v7,v7,En⟩]) fun jJ=>
     I (⟨a0.day,jJ,a0.ae,a0.units⟩,0)))))
  (cond (decide (a1.kind=([112,114,111,100,117,99,116]:List UInt8)))
   (qa (wX a0 v1) fun v20=>
   cond (decide (0≤v20))
    (I (a0,9))
    (cond (decide (16≤((a0.ae.getD []).length:Int)))
     (I (a0,5))
     (qa (bH (I []) (a0.ae.getD [])) fun v24=>
     qa (bH v24 [⟨v1,Gs,Gs,Gs⟩]) fun v26=>
     I (⟨a0.day,a0.lots,v26,a0.units⟩,0))))
   (qa (qr (a1.names.getD []) 1) fun v28=>
   qa (wX a0 v28) fun v30=>
   cond (decide (v30<0))
    (I (a0,10))
    (qa (B7 a0 v1) fun xI=>
    cond (decide (0≤xI))
     (I (a0,9))
     (qa (qr (a0.ae.getD []) v30) fun Ax=>
     cond (decide (((Ax.aM.getD []).length:Int)=0))
      (I (a0,32))
      (cond (decide (256≤((a0.units.getD []).length:Int)))
       (I (a0,5))
       (qa (bH (I []) (a0.units.getD [])) fun v40=>
       qa (bH v40 [⟨v1,v28,((Ax.aM.getD []).length:Int),Gs,Gs,[],En,0⟩]) fun Ze=>
       I (⟨a0.day,a0.lots,a0.ae,Ze⟩,0)))))))
theorem zj4 {a0 a1 r}(h:sg a0 a1=I r):qc pr (X pr) 199 [aR a0,aE a1]=I (.aB [aR r.1,Iv r.2],En):=by
 unfold sg at h
 refine zh xJ ?_
 repeat' first|(replace h:=qb h;obtain⟨d,g,h⟩:=h; (with_reducible first|replace g:=Kf g|replace g:=Zf g|replace g:=O5 g|replace g:=Zg g|replace g:=Xr g|replace g:=q57 g|replace g:=Xt g|skip);try dsimp only[zk,lD,List.map,jm,j9,jc,qv,aY,zo,vev,bn,ja,yq,aE,aR,aU,aL,aP,aD]at g)|(replace h:=qd h;rcases h with⟨g,h⟩|⟨g,h⟩)
 all_goals (cases h<;>(simp only[go_sem,seval,xJ,jg,mP, *];exact⟨_,rfl⟩))
end Go.Z
end
