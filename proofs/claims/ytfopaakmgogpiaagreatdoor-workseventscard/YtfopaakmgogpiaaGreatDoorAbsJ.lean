/- Equations of the executor, second part. -/
import Derived.Test.YtfopaakmgogpiaaGreatDoorAbsI
set_option linter.unusedVariables false
set_option linter.unusedSimpArgs false
namespace Go.Abs
section
variable {p:qu}{xc:XC}{h0:Nat}{al:Option (List Nat)}{e:Env}{h:zb}{α:Type}
attribute [go_sem] List.getElem?_cons_zero List.getElem?_cons_succ List.getElem?_nil List.set_cons_zero List.set_cons_succ List.set_nil List.cons_append List.replicate_zero List.replicate_succ List.map_cons List.map_nil List.all_cons List.all_nil List.drop_zero List.drop_succ_cons List.take_zero List.take_succ_cons List.drop_nil List.take_nil Bool.and_true Bool.true_and Bool.or_false Bool.false_or Bool.and_self List.headD_cons List.foldl_cons List.foldl_nil List.flatMap_cons List.flatMap_nil
@[go_sem] theorem zc1 {k:IntKind}{n:Int}:zm (.int k n)=true:=rfl
@[go_sem] theorem zb1 {b:Bool}:zm (.bool b)=true:=rfl
@[go_sem] theorem zcs {s:List UInt8}:zm (.str s)=true:=rfl
@[go_sem] theorem zb8 {b:Bool}{z:Nat}{xs:List qa}:zm (.list b z xs)=true:=rfl
@[go_sem] theorem zc6 {b o n:Nat}:zm (.ms b o n)=true:=rfl
@[go_sem] theorem zch {b o:Nat}:zm (.ptr b o)=true:=rfl
@[go_sem] theorem zcx {b:Nat}:zm (.map b)=true:=rfl
@[go_sem] theorem j1n:zm .nilptr=true:=rfl
@[go_sem] theorem j2l:zm .nilmap=true:=rfl
@[go_sem] theorem j4n:zm .nilfn=true:=rfl
@[go_sem] theorem zdg {f:Fn}{a b:List qa}:zm (.fn f a b)=true:=rfl
@[go_sem] theorem zc8 {z:Nat}{f:α→qa}{l:Option (List α)}:zm (sl z f l)=true:=by cases l<;>rfl
@[go_sem] theorem j71 {cs:List qa}:qa.flat (.agg cs)=cs:=rfl
@[go_sem] theorem zay {k:IntKind}{n:Int}:qa.flat (.int k n)=[.int k n]:=rfl
@[go_sem] theorem j1l {b:Bool}:qa.flat (.bool b)=[.bool b]:=rfl
@[go_sem] theorem j6d {s:List UInt8}:qa.flat (.str s)=[.str s]:=rfl
@[go_sem] theorem j14 {b:Bool}{z:Nat}{xs:List qa}:qa.flat (.list b z xs)=[.list b z xs]:=rfl
@[go_sem] theorem zb3 {z:Nat}{f:α→qa}{l:Option (List α)}:qa.flat (sl z f l)=[sl z f l]:=by cases l<;>rfl
@[go_sem] theorem j7m {b o:Nat}:qa.flat (.ptr b o)=[.ptr b o]:=rfl
@[go_sem] theorem j5q {b:Nat}:qa.flat (.map b)=[.map b]:=rfl
@[go_sem] theorem zcc {f:Fn}{a b:List qa}:qa.flat (.fn f a b)=[.fn f a b]:=rfl
@[go_sem] theorem zbw {b o n:Nat}:qa.flat (.ms b o n)=[.ms b o n]:=rfl
@[go_sem] theorem qtm {a b:Nat}:Nat.beq a b=decide (a=b):=by
 cases h:Nat.beq a b with
 |true=>have:=Nat.eq_of_beq_eq_true h;simp[this]
 |false=>
  have:a≠b:=fun hh=>by subst hh;simp at h
  simp[this]
@[go_sem] theorem qde {a b:Nat}:Nat.ble a b=decide (a≤b):=by
 cases h:Nat.ble a b with
 |true=>have:=Nat.le_of_ble_eq_true h;simp[this]
 |false=>
  have:¬a≤b:=fun hh=>by rw[Nat.ble_eq_true_of_le hh]at h;cases h
  simp[this]
@[go_sem] theorem qf3 {a b:Nat}:Nat.blt a b=decide (a<b):=by
 show Nat.ble (a+1) b=_
 rw[qde];rfl
@[go_sem] theorem j2o {b:Nat}:ke h0 none b=true:=rfl
@[go_sem] theorem zbv:exl []=false:=rfl
@[go_sem] theorem j7w {k:Nat}{l:List Nat}:exl (k::l)=decide (1000≤k):=by simp only[exl,qde]
@[go_sem] theorem j4o {k b:Nat}{l:List Nat}:exq h0 (k::l) b=cond (decide (k<2000)) (decide (b=k-1000)&&decide (b<h0)) (cond (decide (k<4000)) (decide (b=h0+(k-2000))) (decide (b<h0))):=by
 have e:∀x y:Nat,Nat.beq x y=decide (x=y):=fun x y=>by
  cases h:Nat.beq x y with
  |true=>rw[Nat.eq_of_beq_eq_true h];simp
  |false=>
   have:x≠y:=fun e=>by rw[e,Nat.beq_refl]at h;cases h
   simp[this]
 simp only[exq,qf3,e]
@[go_sem] theorem ju9 {b:Nat}{l:List Nat}:ke h0 (some l) b=cond (exl l) (exq h0 l b) (decide (b<h0)||l.contains (b-h0)):=by simp only[ke,qf3]
def qdt (r:Option zb)(v:qa):Option qp:=match r with
 |some h'=>some ⟨v,false,none,h'⟩
 |none=>none
@[go_sem] theorem j1d {v:qa}:qdt (some h) v=some ⟨v,false,none,h⟩:=rfl
@[go_sem] theorem j01 {h0 r:Nat}{es:List (qa×qa)}:q83 h0 r h true (some es)=qdt (newBox h0 h r (.map es)) (.map (h0+r)):=rfl
def jcv (n:Nat)(h:zb)(b:Option qr)(x:qr):Option zb:=match b with
 |some .hole=>some (h.set n x)
 |_=>none
@[go_sem] theorem j1a {n:Nat}{x:qr}:jcv n h (some .hole) x=some (h.set n x):=rfl
@[go_sem] theorem j0c {r:Nat}{x:qr}:newBox h0 h r x=jcv (h0+r) h h[h0+r]? x:=by
 unfold newBox jcv;rfl
def ifR (b:Bool)(r:Option qp):Option qp:=match b with
 |true=>r
 |false=>none
@[go_sem] theorem j24 {r:Option qp}:ifR true r=r:=rfl
@[go_sem] theorem zb4 {r:Nat}{z:List qa}:j9 p xc h0 al e h (.alloc r z)=ifR (z.all zm) (qdt (newBox h0 h r (.cells (cellsOf z))) (.ptr (h0+r) 0)):=by
 simp only[j9,zu,ifR]
 cases z.all zm with
 |false=>rfl
 |true=>simp only[cT,qdt];cases newBox h0 h r (.cells (cellsOf z))<;>rfl
def q9c (n:Nat)(h:zb)(x:Option qa):Option qp:=match x with
 |some v=>ifR (Nat.beq v.flat.length n&&v.flat.all zm) (some ⟨.vptr v,false,none,h⟩)
 |none=>none
@[go_sem] theorem jtp {n:Nat}{v:qa}:q9c n h (some v)=ifR (Nat.beq v.flat.length n&&v.flat.all zm) (some ⟨.vptr v,false,none,h⟩):=rfl
@[go_sem] theorem zcn {n:Nat}{x:qf}:j9 p xc h0 al e h (.vbox n x)=q9c n h (zh e x):=by
 simp only[j9,zr,q9c]
 cases zh e x with
 |none=>rfl
 |some v=>
  simp only[ifR]
  cases (Nat.beq v.flat.length n&&v.flat.all zm)<;>rfl
def jc7 (h0 r n:Nat)(h:zb)(x:Option qa):Option qp:=match x with
 |some v=>ifR (Nat.beq v.flat.length n&&v.flat.all zm) (qdt (newBox h0 h r (.cells (cellsOf v.flat))) (.ptr (h0+r) 0))
 |none=>none
@[go_sem] theorem j1r {r n:Nat}{v:qa}:jc7 h0 r n h (some v)=ifR (Nat.beq v.flat.length n&&v.flat.all zm) (qdt (newBox h0 h r (.cells (cellsOf v.flat))) (.ptr (h0+r) 0)):=rfl
@[go_sem] theorem zdm {r n:Nat}{x:qf}:j9 p xc h0 al e h (.box r n x)=jc7 h0 r n h (zh e x):=by
 simp only[j9,zu,jc7]
 cases zh e x with
 |none=>rfl
 |some v=>
  simp only[ifR,qdt]
  cases (Nat.beq v.flat.length n&&v.flat.all zm)with
  |false=>rfl
  |true=>simp only[cT];cases newBox h0 h r (.cells (cellsOf v.flat))<;>rfl
@[go_sem] theorem zbs {r:Nat}:j9 p xc h0 al e h (.mkmap r)=qdt (newBox h0 h r (.map [])) (.map (h0+r)):=by
 simp only[j9,zu,qdt]
 cases newBox h0 h r (.map [])<;>rfl
@[go_sem] theorem jpg:cellsOf []=[]:=rfl
@[go_sem] theorem jnh {v:qa}{vs:List qa}:cellsOf (v::vs)=(v,false)::cellsOf vs:=rfl
def qkb (agg:Bool)(h:zb)(r:Option qa):Option qp:=match r with
 |some v=>bif Bool.xor agg v.isAgg then none else val h (.vptr v)
 |none=>none
def qg2 (agg:Bool)(off n:Nat)(h:zb)(x:Option qa):Option qp:=match x with
 |some (.ptr b o)=>val h (.ptr b (o+off))
 |some (.vptr (.agg cs))=>qkb agg h (part agg cs off n)
 |some (.vel b ver o)=>val h (.vel b ver (o+off))
 |_=>none
@[go_sem] theorem jjq {agg:Bool}{off n b v o:Nat}:qg2 agg off n h (some (.vel b v o))=some ⟨.vel b v (o+off),false,none,h⟩:=rfl
@[go_sem] theorem jjl {agg:Bool}{off n b o:Nat}:qg2 agg off n h (some (.ptr b o))=some ⟨.ptr b (o+off),false,none,h⟩:=rfl
@[go_sem] theorem jg0 {agg:Bool}{off n:Nat}{cs:List qa}:qg2 agg off n h (some (.vptr (.agg cs)))=qkb agg h (part agg cs off n):=rfl
@[go_sem] theorem jpu {agg:Bool}{off n:Nat}{x:qf}:j9 p xc h0 al e h (.fieldAddr agg off n x)=qg2 agg off n h (zh e x):=by
 simp only[j9,zr,qg2]
 cases zh e x with
 |none=>rfl
 |some v=>cases v with
  |vptr v=>cases v<;>rfl
  |_=>rfl
def zc4 (v:qa):Prop:=v.isAgg=false
theorem j2i {v:qa}(hv:v.isAgg=false):qkb false h (some v)=some ⟨.vptr v,false,none,h⟩:=by simp[qkb,hv,val]
@[go_sem] theorem j18 {k:IntKind}{n:Int}:qkb false h (some (.int k n))=some ⟨.vptr (.int k n),false,none,h⟩:=rfl
@[go_sem] theorem j1v {s:List UInt8}:qkb false h (some (.str s))=some ⟨.vptr (.str s),false,none,h⟩:=rfl
@[go_sem] theorem js8 {b:Bool}:qkb false h (some (.bool b))=some ⟨.vptr (.bool b),false,none,h⟩:=rfl
@[go_sem] theorem j5f {z:Nat}{f:α→qa}{l:Option (List α)}:qkb false h (some (sl z f l))=some ⟨.vptr (sl z f l),false,none,h⟩:=by cases l<;>rfl
@[go_sem] theorem j1s {cs:List qa}:qkb true h (some (.agg cs))=some ⟨.vptr (.agg cs),false,none,h⟩:=rfl
@[go_sem] theorem j4b {cs:List qa}{off n:Nat}:part false cs off n=cs[off]?:=rfl
def q9f (b:Bool)(cs:List qa)(off n:Nat):Option qa:=match b with
 |true=>some (.agg ((cs.drop off).take n))
 |false=>none
@[go_sem] theorem jzz {cs:List qa}{off n:Nat}:q9f true cs off n=some (.agg ((cs.drop off).take n)):=rfl
@[go_sem] theorem j8w {cs:List qa}{off n:Nat}:part true cs off n=q9f (decide (off+n≤cs.length)) cs off n:=by
 simp only[part,q9f,cT,qde]
 cases decide (off+n≤cs.length)<;>rfl
@[go_sem] theorem j54 {z:Nat}{f:α→qa}{l:Option (List α)}:qa5 h0 al false 1 h (some (.vptr (sl z f l)))=some ⟨sl z f l,false,none,h⟩:=by cases l<;>rfl
def jcq (h:zb)(cs:List qa)(b:Bool):Option qp:=match b with
 |true=>some ⟨.agg cs,false,none,h⟩
 |false=>none
@[go_sem] theorem j0z {cs:List qa}:jcq h cs true=some ⟨.agg cs,false,none,h⟩:=rfl
@[go_sem] theorem jwv {n:Nat}{cs:List qa}:qa5 h0 al true n h (some (.vptr (.agg cs)))=jcq h cs (decide (cs.length=n)):=by
 unfold jcq
 by_cases hn:cs.length=n
 ·rw[ja4 hn];simp[hn]
 ·simp[qa5,qa.isAgg,qa.flat,hn,qtm]
def q19 (agg:Bool)(h:zb)(vs:Option (List qa)):Option qp:=match vs with
 |some vs=>bif agg then val h (.agg vs)else(match vs with
  | [v]=>val h v
  |_=>none)
 |none=>none
@[go_sem] theorem j5l {vs:List qa}:q19 true h (some vs)=some ⟨.agg vs,false,none,h⟩:=rfl
@[go_sem] theorem j86 {v:qa}:q19 false h (some [v])=some ⟨v,false,none,h⟩:=rfl
def q4m (b:Option qr):Option (List (qa×Bool)):=match b with
 |some (.cells cs)=>some cs
 |_=>none
@[go_sem] theorem jo7 {cs:List (qa×Bool)}:q4m (some (.cells cs))=some cs:=rfl
@[go_sem] theorem q4s {b:Nat}:yw h b=q4m h[b]?:=by unfold yw q4m;rfl
def ldC (b:Bool)(cs:List (qa×Bool))(off n:Nat):Option (List qa):=match b with
 |true=>some (((cs.drop off).take n).map (·.1))
 |false=>none
@[go_sem] theorem j21 {cs:List (qa×Bool)}{off n:Nat}:ldC true cs off n=some (((cs.drop off).take n).map (·.1)):=rfl
@[go_sem] theorem jnr {cs:List (qa×Bool)}{off n:Nat}:kn cs off n=ldC (decide (off+n≤cs.length)) cs off n:=by
 simp only[kn,ldC,qde]
 cases decide (off+n≤cs.length)<;>rfl
def jdx (agg:Bool)(o n:Nat)(h:zb)(cs:Option (List (qa×Bool))):Option qp:=match cs with
 |some cs=>q19 agg h (kn cs o n)
 |none=>none
@[go_sem] theorem j09 {agg:Bool}{o n:Nat}{cs:List (qa×Bool)}:jdx agg o n h (some cs)=q19 agg h (kn cs o n):=rfl
@[go_sem] theorem j0h {agg:Bool}{n b o:Nat}:qa5 h0 al agg n h (some (.ptr b o))=ifR (ke h0 al b) (jdx agg o n h (yw h b)):=by
 simp only[qa5,ifR,jdx,q19]
 cases ke h0 al b with
 |false=>rfl
 |true=>
  simp only[cT]
  cases yw h b with
  |none=>rfl
  |some cs=>simp only[];cases kn cs o n<;>rfl
def q1d (r:Option zb)(v:qa)(w:Bool):Option qp:=match r with
 |some h'=>some ⟨v,w,none,h'⟩
 |none=>none
@[go_sem] theorem jvl {v:qa}{w:Bool}:q1d (some h) v w=some ⟨v,w,none,h⟩:=rfl
def q1g (h:zb)(b o:Nat)(cs:List (qa×Bool))(x:Option (qa×Bool)):Option qp:=match x with
 |some (v,w)=>q1d (yv h b (.cells (cs.set o (v,false)))) v w
 |none=>none
@[go_sem] theorem jrk {b o:Nat}{cs:List (qa×Bool)}{v:qa}{w:Bool}:q1g h b o cs (some (v,w))=q1d (yv h b (.cells (cs.set o (v,false)))) v w:=rfl
def q1l (h:zb)(b o:Nat)(cs:Option (List (qa×Bool))):Option qp:=match cs with
 |some cs=>q1g h b o cs cs[o]?
 |none=>none
@[go_sem] theorem jr1 {b o:Nat}{cs:List (qa×Bool)}:q1l h b o (some cs)=q1g h b o cs cs[o]?:=rfl
def qr4 (h0:Nat)(al:Option (List Nat))(off:Option Nat)(h:zb)(x:Option qa):Option qp:=match x with
 |some (.ptr b o)=>ifR (ke h0 al b&&qj8 off o) (q1l h b o (yw h b))
 |_=>none
@[go_sem] theorem jji {off:Option Nat}{b o:Nat}:qr4 h0 al off h (some (.ptr b o))=ifR (ke h0 al b&&qj8 off o) (q1l h b o (yw h b)):=rfl
@[go_sem] theorem jwa {o:Nat}:qj8 none o=true:=rfl
@[go_sem] theorem jx3 {a o:Nat}:qj8 (some a) o=decide (a=o):=by simp only[qj8,qtm]
@[go_sem] theorem jv1 {off:Option Nat}{x:qf}:j9 p xc h0 al e h (.loadTake off x)=qr4 h0 al off h (zh e x):=by
 simp only[j9,zu,qr4]
 cases zh e x with
 |none=>rfl
 |some v=>cases v with
  |ptr b o=>
   simp only[ifR,q1l,q1g,q1d]
   cases (ke h0 al b&&qj8 off o)with
   |false=>rfl
   |true=>
    simp only[cT]
    cases yw h b with
    |none=>rfl
    |some cs=>
     simp only[]
     cases cs[o]? with
     |none=>rfl
     |some c=>
      obtain⟨v,w⟩:=c
      simp only[]
      cases yv h b (.cells (cs.set o (v,false)))<;>rfl
  |_=>rfl
def jeo (b:Bool)(n:Nat)(x:qr)(h:zb):Option zb:=match b with
 |true=>some (h.set n x)
 |false=>none
@[go_sem] theorem j15 {n:Nat}{x:qr}:jeo true n x h=some (h.set n x):=rfl
@[go_sem] theorem j0l {b:Nat}{x:qr}:yv h b x=jeo (decide (b<h.length)) b x h:=by
 simp only[yv,jeo,qf3]
 cases decide (b<h.length)<;>rfl
def stC (b:Bool)(cs:List (qa×Bool))(off:Nat)(vs:List qa):Option (List (qa×Bool)):=match b with
 |true=>some (cs.take off++vs.map (·,false)++cs.drop (off+vs.length))
 |false=>none
@[go_sem] theorem j4c {cs:List (qa×Bool)}{off:Nat}{vs:List qa}:stC true cs off vs=some (cs.take off++vs.map (·,false)++cs.drop (off+vs.length)):=rfl
@[go_sem] theorem jju {cs:List (qa×Bool)}{off:Nat}{vs:List qa}:yu cs off vs=stC (decide (off+vs.length≤cs.length)&&vs.all zm) cs off vs:=by
 simp only[yu,stC,qde]
 cases (decide (off+vs.length≤cs.length)&&vs.all zm)<;>rfl
def zdr (e:Env)(x:qf):Option Nat:=kx e x
def q9j (t:Nat)(x:Option (qa×Bool)):Option Nat:=match x with
 |some (_,true)=>some t
 |_=>none
@[go_sem] theorem j10 {t:Nat}{v:qa}:q9j t (some (v,true))=some t:=rfl
@[go_sem] theorem jsn {t:Nat}{v:qa}:q9j t (some (v,false))=none:=rfl
@[go_sem] theorem jz9 {t:Nat}:kx e (.tmp t)=q9j t (yl t e):=by
 simp only[kx,q9j];rfl
@[go_sem] theorem jpb {v:qa}:kx e (.const v)=none:=rfl
def qts (h:zb)(b:Nat)(cs:Option (List (qa×Bool))):Option qp:=match cs with
 |some cs'=>qdt (yv h b (.cells cs')) .undef
 |none=>none
@[go_sem] theorem jls {b:Nat}{cs:List (qa×Bool)}:qts h b (some cs)=qdt (yv h b (.cells cs)) .undef:=rfl
def q1f (t:Nat)(r:Option zb):Option qp:=match r with
 |some h'=>some ⟨.undef,false,some t,h'⟩
 |none=>none
@[go_sem] theorem jy6 {t:Nat}:q1f t (some h)=some ⟨.undef,false,some t,h⟩:=rfl
def qsp (n:Nat)(h:zb)(b o:Nat)(v:qa)(own:Option Nat)(cs:Option (List (qa×Bool))):Option qp:=match cs,own with
 |some cs,some t=>ifR (Nat.beq n 1&&v.isList&&Nat.blt o cs.length) (q1f t (yv h b (.cells (cs.set o (v,true)))))
 |some cs,none=>ifR (Nat.beq v.flat.length n) (qts h b (yu cs o v.flat))
 |none,_=>none
@[go_sem] theorem jqv {n b o t:Nat}{v:qa}{cs:List (qa×Bool)}:qsp n h b o v (some t) (some cs)=ifR (Nat.beq n 1&&v.isList&&Nat.blt o cs.length) (q1f t (yv h b (.cells (cs.set o (v,true))))):=rfl
@[go_sem] theorem jn0 {n b o:Nat}{v:qa}{cs:List (qa×Bool)}:qsp n h b o v none (some cs)=ifR (Nat.beq v.flat.length n) (qts h b (yu cs o v.flat)):=rfl
def q3l (h0:Nat)(al:Option (List Nat))(n:Nat)(h:zb)(own:Option Nat)(a x:Option qa):Option qp:=match a,x with
 |some (.ptr b o),some v=>ifR (ke h0 al b) (qsp n h b o v own (yw h b))
 |_,_=>none
@[go_sem] theorem js1 {n b o:Nat}{own:Option Nat}{v:qa}:q3l h0 al n h own (some (.ptr b o)) (some v)=ifR (ke h0 al b) (qsp n h b o v own (yw h b)):=rfl
@[go_sem] theorem zbq {n:Nat}{a x:qf}:j9 p xc h0 al e h (.store n a x)=q3l h0 al n h (kx e x) (zh e a) (zh e x):=by
 simp only[j9,zu,q3l]
 cases zh e a with
 |none=>rfl
 |some va=>
  cases va with
  |ptr b o=>
   cases zh e x with
   |none=>rfl
   |some v=>
    simp only[ifR]
    cases ke h0 al b with
    |false=>rfl
    |true=>
     simp only[cT]
     cases yw h b with
     |none=>rfl
     |some cs=>
      simp only[qsp]
      cases kx e x with
      |none=>
       simp only[ifR,qts,qdt]
       cases Nat.beq v.flat.length n with
       |false=>rfl
       |true=>
        simp only[cT]
        cases yu cs o v.flat with
        |none=>rfl
        |some cs'=>simp only[];cases yv h b (.cells cs')<;>rfl
      |some t=>
       simp only[ifR,q1f]
       cases (Nat.beq n 1&&v.isList&&Nat.blt o cs.length)with
       |false=>rfl
       |true=>simp only[cT];cases yv h b (.cells (cs.set o (v,true)))<;>rfl
  |_=>rfl
@[go_sem] theorem jpw {b:Bool}{z:Nat}{xs:List qa}:qa.isList (.list b z xs)=true:=rfl
@[go_sem] theorem j0v {z:Nat}{f:α→qa}{l:Option (List α)}:qa.isList (sl z f l)=true:=by cases l<;>rfl
def qwr (b:Bool)(off:Nat)(vs:List qa)(l:Option (List (Nat×List qa))):Option (List (Nat×List qa)):=match b,l with
 |true,some r=>some ((off,vs)::r)
 |_,_=>none
@[go_sem] theorem jp4 {off:Nat}{vs:List qa}{r:List (Nat×List qa)}:qwr true off vs (some r)=some ((off,vs)::r):=rfl
def q3k (x:Option qa)(off n:Nat)(l:Option (List (Nat×List qa))):Option (List (Nat×List qa)):=match x with
 |some v=>qwr (Nat.beq v.flat.length n&&v.flat.all zm) off v.flat l
 |none=>none
@[go_sem] theorem jp2 {v:qa}{off n:Nat}{l:Option (List (Nat×List qa))}:q3k (some v) off n l=qwr (Nat.beq v.flat.length n&&v.flat.all zm) off v.flat l:=rfl
@[go_sem] theorem jjg:qbg e []=some []:=rfl
@[go_sem] theorem jiy {off n:Nat}{x:qf}{l:List (Nat×Nat×qf)}:qbg e ((off,n,x)::l)=q3k (zh e x) off n (qbg e l):=by
 simp only[qbg,q3k,qwr]
 cases zh e x with
 |none=>rfl
 |some v=>simp only[];cases (Nat.beq v.flat.length n&&v.flat.all zm)<;>cases qbg e l<;>rfl
def fillR (h:zb)(zero:List qa)(ps:Option (List (Nat×List qa))):Option qp:=match ps with
 |some ps=>fillS h (qdc zero ps)
 |none=>none
where fillS (h:zb) (r:Option (List qa)):Option qp:=match r with
 |some cs=>some ⟨.agg cs,false,none,h⟩
 |none=>none
@[go_sem] theorem jso {zero:List qa}{ps:List (Nat×List qa)}:fillR h zero (some ps)=fillR.fillS h (qdc zero ps):=rfl
@[go_sem] theorem jsy {cs:List qa}:fillR.fillS h (some cs)=some ⟨.agg cs,false,none,h⟩:=rfl
@[go_sem] theorem zb7 {zero:List qa}{ps:List (Nat×Nat×qf)}:j9 p xc h0 al e h (.build zero ps)=fillR h zero (qbg e ps):=by
 simp only[j9,zr,fillR,fillR.fillS]
 cases qbg e ps with
 |none=>rfl
 |some ps=>simp only[];cases qdc zero ps<;>rfl
@[go_sem] theorem j19 {cs:List qa}:qdc cs []=some cs:=rfl
def q84 (b:Bool)(cs:List qa)(off:Nat)(vs:List qa)(l:List (Nat×List qa)):Option (List qa):=match b with
 |true=>qdc (cs.take off++vs++cs.drop (off+vs.length)) l
 |false=>none
@[go_sem] theorem jrl {cs:List qa}{off:Nat}{vs:List qa}{l:List (Nat×List qa)}:q84 true cs off vs l=qdc (cs.take off++vs++cs.drop (off+vs.length)) l:=rfl
@[go_sem] theorem jyg {cs:List qa}{off:Nat}{vs:List qa}{l:List (Nat×List qa)}:qdc cs ((off,vs)::l)=q84 (decide (off+vs.length≤cs.length)) cs off vs l:=by
 simp only[qdc,q84,qde]
 cases decide (off+vs.length≤cs.length)<;>rfl
def elemsO (x:Option qa)(i sz:Nat)(l:Option (List (Nat×qa))):Option (List (Nat×qa)):=match x with
 |some v=>elemsC (Nat.beq v.flat.length sz&&v.flat.all zm) i v l
 |none=>none
where elemsC (b:Bool) (i:Nat) (v:qa) (l:Option (List (Nat×qa))):Option (List (Nat×qa)):=match b,l with
 |true,some r=>some ((i,v)::r)
 |_,_=>none
@[go_sem] theorem jpx {v:qa}{i sz:Nat}{l:Option (List (Nat×qa))}:elemsO (some v) i sz l=elemsO.elemsC (Nat.beq v.flat.length sz&&v.flat.all zm) i v l:=rfl
@[go_sem] theorem jpa {v:qa}{i:Nat}{r:List (Nat×qa)}:elemsO.elemsC true i v (some r)=some ((i,v)::r):=rfl
@[go_sem] theorem jjt {sz:Nat}:qap e sz []=some []:=rfl
@[go_sem] theorem jic {sz i:Nat}{x:qf}{l:List (Nat×qf)}:qap e sz ((i,x)::l)=elemsO (zh e x) i sz (qap e sz l):=by
 simp only[qap,elemsO,elemsO.elemsC]
 cases zh e x with
 |none=>rfl
 |some v=>simp only[];cases (Nat.beq v.flat.length sz&&v.flat.all zm)<;>cases qap e sz l<;>rfl
@[go_sem] theorem j12 {xs:List qa}:qeo xs []=some xs:=rfl
def q29 (b:Bool)(xs:List qa)(i:Nat)(v:qa)(l:List (Nat×qa)):Option (List qa):=match b with
 |true=>qeo (xs.set i v) l
 |false=>none
@[go_sem] theorem jo1 {xs:List qa}{i:Nat}{v:qa}{l:List (Nat×qa)}:q29 true xs i v l=qeo (xs.set i v) l:=rfl
@[go_sem] theorem jxo {xs:List qa}{i:Nat}{v:qa}{l:List (Nat×qa)}:qeo xs ((i,v)::l)=q29 (decide (i<xs.length)) xs i v l:=by
 simp only[qeo,q29,qf3]
 cases decide (i<xs.length)<;>rfl
def sliceR (sz:Nat)(h:zb)(xs:List qa)(ps:Option (List (Nat×qa))):Option qp:=match ps with
 |some ps=>sliceS sz h (qeo xs ps)
 |none=>none
where sliceS (sz:Nat) (h:zb) (r:Option (List qa)):Option qp:=match r with
 |some xs=>some ⟨.list false sz xs,true,none,h⟩
 |none=>none
@[go_sem] theorem jpc {sz:Nat}{xs:List qa}{ps:List (Nat×qa)}:sliceR sz h xs (some ps)=sliceR.sliceS sz h (qeo xs ps):=rfl
@[go_sem] theorem jpl {sz:Nat}{xs:List qa}:sliceR.sliceS sz h (some xs)=some ⟨.list false sz xs,true,none,h⟩:=rfl
@[go_sem] theorem jok {sz len:Nat}{zero:List qa}{ps:List (Nat×qf)}:j9 p xc h0 al e h (.buildSlice sz len zero ps)=sliceR sz h (List.replicate len (bif Nat.beq sz 1 then zero.headD .undef else .agg zero)) (qap e sz ps):=by
 simp only[j9,zr,sliceR,sliceR.sliceS]
 cases qap e sz ps with
 |none=>rfl
 |some ps=>simp only[];cases qeo (List.replicate len (bif Nat.beq sz 1 then zero.headD .undef else .agg zero)) ps<;>rfl
def appR (sz bytes:Nat)(h:zb)(own:Option Nat)(x y:Option qa):Option qp:=match x,y with
 |some (.list n sz' xs),some vy=>ifR (n||own.isSome) (appS sz bytes h own n sz' xs (qaa sz vy))
 |_,_=>none
where appS (sz bytes:Nat) (h:zb) (own:Option Nat) (n:Bool) (sz':Nat) (xs:List qa) (ys:Option (List qa)):Option qp:=match ys with
 |some ys=>ifR ((Nat.beq sz sz'||(xs.isEmpty&&n))&&Nat.ble (xs.length+ys.length) 1073741824&&Nat.ble bytes 4096&&Nat.blt 0 sz) (some ⟨qiq n sz xs ys,true,own,h⟩)
 |none=>none
@[go_sem] theorem j1i {sz bytes:Nat}{own:Option Nat}{n:Bool}{sz':Nat}{xs:List qa}{vy:qa}:appR sz bytes h own (some (.list n sz' xs)) (some vy)=ifR (n||own.isSome) (appR.appS sz bytes h own n sz' xs (qaa sz vy)):=rfl
@[go_sem] theorem j1t {sz bytes:Nat}{own:Option Nat}{n:Bool}{sz':Nat}{xs ys:List qa}:appR.appS sz bytes h own n sz' xs (some ys)=ifR ((Nat.beq sz sz'||(xs.isEmpty&&n))&&Nat.ble (xs.length+ys.length) 1073741824&&Nat.ble bytes 4096&&Nat.blt 0 sz) (some ⟨qiq n sz xs ys,true,own,h⟩):=rfl
@[go_sem] theorem j79 {sz bytes:Nat}{x y:qf}:j9 p xc h0 al e h (.append none sz bytes x y)=appR sz bytes h (kx e x) (zh e x) (zh e y):=by
 simp only[j9,zr,appR,appR.appS]
 cases zh e x with
 |none=>rfl
 |some vx=>
  cases vx with
  |list n sz' xs=>
   cases zh e y with
   |none=>rfl
   |some vy=>
    simp only[ifR]
    cases (n||(kx e x).isSome)with
    |false=>rfl
    |true=>
     simp only[cT]
     cases qaa sz vy with
     |none=>rfl
     |some ys=>simp only[];cases ((Nat.beq sz sz'||(xs.isEmpty&&n))&&Nat.ble (xs.length+ys.length) 1073741824&&Nat.ble bytes 4096&&Nat.blt 0 sz)<;>rfl
  |_=>cases zh e y<;>rfl
@[go_sem] theorem jay {z:Nat}{f:α→qa}{l:Option (List α)}:qaa z (sl z f l)=some ((l.getD []).map f):=by
 cases l<;>simp[qaa,sl]
@[go_sem] theorem j99 {z:Nat}{b:Bool}{xs:List qa}:qaa z (.list b z xs)=some xs:=by simp[qaa]
@[go_sem] theorem zbl {z z':Nat}{b:Bool}:qaa z (.list b z' [])=some []:=by simp[qaa]
@[go_sem] theorem jo8 {z:Nat}{xs ys:List qa}:qiq false z xs ys=.list false z (xs++ys):=rfl
@[go_sem] theorem jq6 {z:Nat}{b:Bool}{xs:List qa}{y:qa}{ys:List qa}:qiq b z xs (y::ys)=.list false z (xs++y::ys):=by cases b<;>rfl
attribute [go_sem] Option.isSome_some Option.isSome_none Bool.or_true Bool.true_or List.isEmpty_nil List.isEmpty_cons Bool.and_false Bool.false_and
def qvr (h:zb)(i:Nat)(x:Option qa):Option qp:=match x with
 |some (.tup vs)=>qcx h vs[i]?
 |_=>none
@[go_sem] theorem jon {i:Nat}{vs:List qa}:qvr h i (some (.tup vs))=qcx h vs[i]?:=rfl
@[go_sem] theorem j0q {i:Nat}{x:qf}:j9 p xc h0 al e h (.extract x i)=qvr h i (zh e x):=by
 simp only[j9,zr,qvr]
 cases zh e x with
 |none=>rfl
 |some v=>cases v<;>rfl
def un1 (op:UnOp)(h:zb)(x:Option qa):Option qp:=match x with
 |some v=>qcx h (qnl op v)
 |none=>none
@[go_sem] theorem j97 {op:UnOp}{v:qa}:un1 op h (some v)=qcx h (qnl op v):=rfl
@[go_sem] theorem zds {op:UnOp}{x:qf}:j9 p xc h0 al e h (.un op x)=un1 op h (zh e x):=by
 simp only[j9,zr,un1]
 cases zh e x<;>rfl
@[go_sem] theorem zcj {b:Bool}:qnl .not (.bool b)=some (.bool (!b)):=rfl
@[go_sem] theorem zct {k:IntKind}{n:Int}:qnl .neg (.int k n)=some (.int k (j8 k (0-n))):=rfl
def jd3 (neq:Bool)(h:zb)(x y:Option qa):Option qp:=match x,y with
 |some (.bool a),some (.bool b)=>val h (.bool (bif neq then !(a == b)else a == b))
 |_,_=>none
@[go_sem] theorem j0e {neq a b:Bool}:jd3 neq h (some (.bool a)) (some (.bool b))=some ⟨.bool (bif neq then !(a == b)else a == b),false,none,h⟩:=rfl
@[go_sem] theorem zc9 {neq:Bool}{x y:qf}:j9 p xc h0 al e h (.beq neq x y)=jd3 neq h (zh e x) (zh e y):=by
 simp only[j9,zr,jd3]
 cases zh e x with
 |none=>rfl
 |some v=>cases v<;>cases zh e y<;>rfl
def qza (f:Fn)(h:zb)(a b:Option (List qa)):Option qp:=match a,b with
 |some a,some b=>val h (.fn f a b)
 |_,_=>none
@[go_sem] theorem jle {f:Fn}{a b:List qa}:qza f h (some a) (some b)=some ⟨.fn f a b,false,none,h⟩:=rfl
@[go_sem] theorem j6t {f:Fn}{a b:List qf}:j9 p xc h0 al e h (.mkfunc f a b)=qza f h (qbq e a) (qbq e b):=by
 simp only[j9,zr,qza]
 cases qbq e a<;>cases qbq e b<;>rfl
def mxR (f:qa→qa→Option qa)(h:zb)(l:Option (List qa)):Option qp:=match l with
 |some (v::vs)=>qcx h (qgb f v vs)
 |_=>none
@[go_sem] theorem j4m {f:qa→qa→Option qa}{v:qa}{vs:List qa}:mxR f h (some (v::vs))=qcx h (qgb f v vs):=rfl
@[go_sem] theorem zdu {l:List qf}:j9 p xc h0 al e h (.mx l)=mxR max2 h (qbq e l):=by
 simp only[j9,zr,mxR]
 cases qbq e l with
 |none=>rfl
 |some vs=>cases vs<;>rfl
@[go_sem] theorem zdt {l:List qf}:j9 p xc h0 al e h (.mn l)=mxR min2 h (qbq e l):=by
 simp only[j9,zr,mxR]
 cases qbq e l with
 |none=>rfl
 |some vs=>cases vs<;>rfl
def q6y (f:qa→qa→Option qa)(x:Option qa)(l:List qa):Option qa:=match x with
 |some z=>qgb f z l
 |none=>none
@[go_sem] theorem jzf {f:qa→qa→Option qa}{x:qa}{l:List qa}:q6y f (some x) l=qgb f x l:=rfl
@[go_sem] theorem j0m {f:qa→qa→Option qa}{x:qa}:qgb f x []=some x:=rfl
@[go_sem] theorem jyv {f:qa→qa→Option qa}{x y:qa}{l:List qa}:qgb f x (y::l)=q6y f (f x y) l:=by
 simp only[qgb,q6y];rfl
@[go_sem] theorem j5h {k:IntKind}{x y:Int}:max2 (.int k x) (.int k y)=some (.int k (max x y)):=by
 simp only[max2,decide_true,cT]
 congr 2
 by_cases h:y > x
 ·rw[if_pos h];omega
 ·rw[if_neg h];omega
@[go_sem] theorem j5p {k:IntKind}{x y:Int}:min2 (.int k x) (.int k y)=some (.int k (min x y)):=by
 simp only[min2,decide_true,cT]
 congr 2
 by_cases h:y<x
 ·rw[if_pos h];omega
 ·rw[if_neg h];omega
def q2q (k:Nat)(neq:Bool)(h:zb)(x:Option qa):Option qp:=match k,x with
  |0,some (.list n _ _)=>val h (.bool (bif neq then !n else n))
  |0,some (.ms ..)=>val h (.bool neq)
  |1,some .nilptr=>val h (.bool (!neq))
  |1,some (.ptr ..)=>val h (.bool neq)
  |1,some (.vptr ..)=>val h (.bool neq)
  |2,some .nilmap=>val h (.bool (!neq))
  |2,some (.map ..)=>val h (.bool neq)
  |3,some .nilfn=>val h (.bool (!neq))
  |3,some (.fn ..)=>val h (.bool neq)
  |_,_=>none
@[go_sem] theorem zcg {k:Nat}{neq:Bool}{x:qf}:j9 p xc h0 al e h (.nilEq k neq x)=q2q k neq h (zh e x):=rfl
@[go_sem] theorem jzb {neq n:Bool}{z:Nat}{xs:List qa}:q2q 0 neq h (some (.list n z xs))=some ⟨.bool (bif neq then !n else n),false,none,h⟩:=rfl
@[go_sem] theorem j0o {n:Nat}{k:IntKind}{i:Int}:below n (.int k i)=true:=rfl
@[go_sem] theorem jt8 {n:Nat}{b:Bool}:below n (.bool b)=true:=rfl
@[go_sem] theorem j02 {n:Nat}{s:List UInt8}:below n (.str s)=true:=rfl
@[go_sem] theorem jtv {n:Nat}{b:Bool}{z:Nat}{xs:List qa}:below n (.list b z xs)=z8 n xs:=by simp only[below]
@[go_sem] theorem j0s {n:Nat}{xs:List qa}:below n (.agg xs)=z8 n xs:=by simp only[below]
@[go_sem] theorem j0x {n:Nat}{xs:List qa}:below n (.tup xs)=z8 n xs:=by simp only[below]
@[go_sem] theorem j0p {n b o:Nat}:below n (.ptr b o)=decide (b<n):=by simp only[below,qf3]
@[go_sem] theorem j2a {n b:Nat}:below n (.map b)=decide (b<n):=by simp only[below,qf3]
@[go_sem] theorem zan {n k:Nat}{a b:List qa}:below n (.fn (.func k) a b)=(z8 n a&&z8 n b):=by simp only[below]
@[go_sem] theorem jze {n:Nat}:z8 n []=true:=by simp only[z8]
@[go_sem] theorem q5f {n:Nat}{x:qa}{xs:List qa}:z8 n (x::xs)=(below n x&&z8 n xs):=by simp only[z8]
@[go_sem] theorem jyr {n:Nat}{i:Int}:below n (yb i)=true:=rfl
@[go_sem] theorem jzw {n z:Nat}{l:Option (List Int)}:below n (sl z yb l)=true:=qev fun _=>rfl
theorem qwo {n:Nat}{f:α→qa}(hf:∀x,below n (f x)=true):∀l:List α,z8 n (l.map f)=true
 | []=>rfl
 |x::l=>by rw[List.map_cons,q5f,hf,qwo hf l];rfl
@[go_sem] theorem jo2 {n:Nat}{l:List Int}:z8 n (l.map yb)=true:=qwo (fun _=>rfl) l
@[go_sem] theorem zb6 {k:IntKind}{i:Int}:qbd h (.int k i)=some (.int k i):=rfl
@[go_sem] theorem j87 {b:Bool}:qbd h (.bool b)=some (.bool b):=rfl
@[go_sem] theorem zby {s:List UInt8}:qbd h (.str s)=some (.str s):=rfl
@[go_sem] theorem j9e {b:Bool}{z:Nat}{xs:List qa}:qbd h (.list b z xs)=some (.list b z xs):=rfl
@[go_sem] theorem jl9 {z:Nat}{f:α→qa}{l:Option (List α)}:qbd h (sl z f l)=some (sl z f l):=by cases l<;>rfl
@[go_sem] theorem j59:qch h []=some []:=rfl
@[go_sem] theorem j0k {v:qa}{vs:List qa}:qch h (v::vs)=qhr (qbd h v) (qch h vs):=by
 simp only[qch,qhr]
 cases qbd h v with
 |none=>rfl
 |some x=>cases qch h vs<;>rfl
def q64 (l:Option (List qa)):Option qa:=match l with
 |some xs=>some (.agg xs)
 |none=>none
@[go_sem] theorem j1e {xs:List qa}:q64 (some xs)=some (.agg xs):=rfl
@[go_sem] theorem qvf {cs:List qa}:freezeR h (.agg cs)=q64 (qch h cs):=by
 simp only[freezeR,q64]
 cases qch h cs<;>rfl
@[go_sem] theorem zbb {k:IntKind}{i:Int}:freezeR h (.int k i)=some (.int k i):=rfl
@[go_sem] theorem j0y {b:Bool}:freezeR h (.bool b)=some (.bool b):=rfl
@[go_sem] theorem j23 {s:List UInt8}:freezeR h (.str s)=some (.str s):=rfl
@[go_sem] theorem jz8 {b:Bool}{z:Nat}{xs:List qa}:freezeR h (.list b z xs)=some (.list b z xs):=rfl
@[go_sem] theorem zcf {z:Nat}{f:α→qa}{l:Option (List α)}:freezeR h (sl z f l)=some (sl z f l):=by cases l<;>rfl
def jdb (l:Option (List qa)):Option qa:=match l with
 |some xs=>some (.tup xs)
 |none=>none
@[go_sem] theorem j2n {xs:List qa}:jdb (some xs)=some (.tup xs):=rfl
@[go_sem] theorem j7c {cs:List qa}:freezeR h (.tup cs)=jdb (freezeR.freezeT h cs):=by
 simp only[freezeR,jdb]
 cases freezeR.freezeT h cs<;>rfl
@[go_sem] theorem j5s:freezeR.freezeT h []=some []:=rfl
@[go_sem] theorem j4e {cs vs:List qa}:freezeR.freezeT h (.agg cs::vs)=qhr (q64 (qch h cs)) (freezeR.freezeT h vs):=by
 rw[freezeR.freezeT]
 cases qch h cs with
 |none=>rfl
 |some x=>cases freezeR.freezeT h vs<;>rfl
theorem qme {v:qa}{vs:List qa}(hv:v.isAgg=false):freezeR.freezeT h (v::vs)=qhr (qbd h v) (freezeR.freezeT h vs):=by
 have:∀cs,v≠.agg cs:=fun cs hc=>by rw[hc]at hv;cases hv
 rw[freezeR.freezeT]
 ·cases qbd h v with
  |none=>rfl
  |some x=>cases freezeR.freezeT h vs<;>rfl
 ·exact this
@[go_sem] theorem za0 {k:IntKind}{i:Int}{vs:List qa}:freezeR.freezeT h (.int k i::vs)=qhr (some (.int k i)) (freezeR.freezeT h vs):=qme rfl
@[go_sem] theorem j0d {b:Bool}{vs:List qa}:freezeR.freezeT h (.bool b::vs)=qhr (some (.bool b)) (freezeR.freezeT h vs):=qme rfl
@[go_sem] theorem j9j {s:List UInt8}{vs:List qa}:freezeR.freezeT h (.str s::vs)=qhr (some (.str s)) (freezeR.freezeT h vs):=qme rfl
@[go_sem] theorem j17 {b:Bool}{z:Nat}{xs vs:List qa}:freezeR.freezeT h (.list b z xs::vs)=qhr (some (.list b z xs)) (freezeR.freezeT h vs):=qme rfl
@[go_sem] theorem zce {z:Nat}{f:α→qa}{l:Option (List α)}{vs:List qa}:freezeR.freezeT h (sl z f l::vs)=qhr (some (sl z f l)) (freezeR.freezeT h vs):=by
 rw[qme (by cases l<;>rfl),jl9]
attribute [go_sem] List.contains_cons List.contains_nil
@[go_sem] theorem zcd {a b:Nat}:(a == b)=decide (a=b):=by
 by_cases hab:a=b<;>simp[hab]
def qyj (agg:Bool)(c:Option (qa×Bool))(vs:Option (List qa)):Option (qa×Bool):=match vs,agg with
 |some vs,true=>some (.agg vs,false)
 |some _,false=>c
 |none,_=>none
@[go_sem] theorem j0t {c:Option (qa×Bool)}{vs:List qa}:qyj true c (some vs)=some (.agg vs,false):=rfl
@[go_sem] theorem j1x {c:Option (qa×Bool)}{vs:List qa}:qyj false c (some vs)=c:=rfl
def q1k (agg:Bool)(o n:Nat)(cs:Option (List (qa×Bool))):Option (qa×Bool):=match cs with
 |some cs=>qyj agg cs[o]? (kn cs o n)
 |none=>none
@[go_sem] theorem jv5 {agg:Bool}{o n:Nat}{cs:List (qa×Bool)}:q1k agg o n (some cs)=qyj agg cs[o]? (kn cs o n):=rfl
def q7a (agg:Bool)(n:Nat)(h:zb)(x:Option (qa×Bool)):Option (qa×Bool):=match x with
 |some (.ptr b o,_)=>q1k agg o n (yw h b)
 |_=>none
@[go_sem] theorem j03 {agg:Bool}{n b o:Nat}{w:Bool}:q7a agg n h (some (.ptr b o,w))=q1k agg o n (yw h b):=rfl
@[go_sem] theorem jjv {t n:Nat}{agg:Bool}:qeu ⟨e,h⟩ (.cell t agg n)=q7a agg n h (yl t e):=by
 simp only[qeu,q7a]
 cases yl t e with
 |none=>rfl
 |some x=>
  obtain⟨v,w⟩:=x
  cases v with
  |ptr b o=>
   simp only[q1k]
   cases yw h b with
   |none=>rfl
   |some cs=>
    simp only[qyj]
    cases kn cs o n with
    |none=>rfl
    |some vs=>cases agg with
     |true=>rfl
     |false=>simp only[cF];cases cs[o]?<;>rfl
  |_=>rfl
theorem qbj {k:Nat}{args:List qa}{v v':qa}{o:Bool}(hp:p.prims k=none)(hc:zj p xc k args []=some (v,o,h))(hz:freezeR h v=some v')(hv:below 0 v'=true):j6 p xc k args=some (v',o&&v.isList):=by
 unfold j6
 rw[hp]
 simp only[hc,hz,qe3,hv,cT]
end
end Go.Abs
