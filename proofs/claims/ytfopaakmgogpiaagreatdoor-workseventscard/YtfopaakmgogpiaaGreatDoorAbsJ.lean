/- Equations of the executor, second part. -/
import Derived.Test.YtfopaakmgogpiaaGreatDoorAbsI
set_option linter.unusedVariables false
set_option linter.unusedSimpArgs false
namespace Go.Abs
section
variable {p:qt}{xc:XC}{h0:Nat}{al:Option (List Nat)}{e:Env}{h:j8}{α:Type}
attribute [go_sem] List.getElem?_cons_zero List.getElem?_cons_succ List.getElem?_nil List.set_cons_zero List.set_cons_succ List.set_nil List.cons_append List.replicate_zero List.replicate_succ List.map_cons List.map_nil List.all_cons List.all_nil List.drop_zero List.drop_succ_cons List.take_zero List.take_succ_cons List.drop_nil List.take_nil Bool.and_true Bool.true_and Bool.or_false Bool.false_or Bool.and_self List.headD_cons List.foldl_cons List.foldl_nil List.flatMap_cons List.flatMap_nil
@[go_sem] theorem zi5 {k:IntKind}{n:Int}:ze (.int k n)=true:=rfl
@[go_sem] theorem zif {b:Bool}:ze (.bool b)=true:=rfl
@[go_sem] theorem zjm {s:List UInt8}:ze (.str s)=true:=rfl
@[go_sem] theorem zin {b:Bool}{z:Nat}{xs:List qa}:ze (.list b z xs)=true:=rfl
@[go_sem] theorem zjy {b o n:Nat}:ze (.ms b o n)=true:=rfl
@[go_sem] theorem zi8 {b o:Nat}:ze (.ptr b o)=true:=rfl
@[go_sem] theorem zjl {b:Nat}:ze (.map b)=true:=rfl
@[go_sem] theorem j8p:ze .nilptr=true:=rfl
@[go_sem] theorem j8t:ze .nilmap=true:=rfl
@[go_sem] theorem zat:ze .nilfn=true:=rfl
@[go_sem] theorem zjt {f:Fn}{a b:List qa}:ze (.fn f a b)=true:=rfl
@[go_sem] theorem zj2 {z:Nat}{f:α→qa}{l:Option (List α)}:ze (sl z f l)=true:=by cases l<;>rfl
@[go_sem] theorem zhc {cs:List qa}:qa.flat (.agg cs)=cs:=rfl
@[go_sem] theorem zgj {k:IntKind}{n:Int}:qa.flat (.int k n)=[.int k n]:=rfl
@[go_sem] theorem j7b {b:Bool}:qa.flat (.bool b)=[.bool b]:=rfl
@[go_sem] theorem zer {s:List UInt8}:qa.flat (.str s)=[.str s]:=rfl
@[go_sem] theorem j8x {b:Bool}{z:Nat}{xs:List qa}:qa.flat (.list b z xs)=[.list b z xs]:=rfl
@[go_sem] theorem zid {z:Nat}{f:α→qa}{l:Option (List α)}:qa.flat (sl z f l)=[sl z f l]:=by cases l<;>rfl
@[go_sem] theorem zdq {b o:Nat}:qa.flat (.ptr b o)=[.ptr b o]:=rfl
@[go_sem] theorem ze1 {b:Nat}:qa.flat (.map b)=[.map b]:=rfl
@[go_sem] theorem zie {f:Fn}{a b:List qa}:qa.flat (.fn f a b)=[.fn f a b]:=rfl
@[go_sem] theorem zih {b o n:Nat}:qa.flat (.ms b o n)=[.ms b o n]:=rfl
@[go_sem] theorem qte {a b:Nat}:Nat.beq a b=decide (a=b):=by
 cases h:Nat.beq a b with
 |true=>have:=Nat.eq_of_beq_eq_true h;simp[this]
 |false=>
  have:a≠b:=fun hh=>by subst hh;simp at h
  simp[this]
@[go_sem] theorem qcf {a b:Nat}:Nat.ble a b=decide (a≤b):=by
 cases h:Nat.ble a b with
 |true=>have:=Nat.le_of_ble_eq_true h;simp[this]
 |false=>
  have:¬a≤b:=fun hh=>by rw[Nat.ble_eq_true_of_le hh]at h;cases h
  simp[this]
@[go_sem] theorem qe8 {a b:Nat}:Nat.blt a b=decide (a<b):=by
 show Nat.ble (a+1) b=_
 rw[qcf];rfl
@[go_sem] theorem j8j {b:Nat}:yv h0 none b=true:=rfl
@[go_sem] theorem zil:exl []=false:=rfl
@[go_sem] theorem zdy {k:Nat}{l:List Nat}:exl (k::l)=decide (1000≤k):=by simp only[exl,qcf]
@[go_sem] theorem zgi {k b:Nat}{l:List Nat}:exq h0 (k::l) b=cond (decide (k<2000)) (decide (b=k-1000)&&decide (b<h0)) (cond (decide (k<4000)) (decide (b=h0+(k-2000))) (decide (b<h0))):=by
 have e:∀x y:Nat,Nat.beq x y=decide (x=y):=fun x y=>by
  cases h:Nat.beq x y with
  |true=>rw[Nat.eq_of_beq_eq_true h];simp
  |false=>
   have:x≠y:=fun e=>by rw[e,Nat.beq_refl]at h;cases h
   simp[this]
 simp only[exq,qe8,e]
@[go_sem] theorem jxl {b:Nat}{l:List Nat}:yv h0 (some l) b=cond (exl l) (exq h0 l b) (decide (b<h0)||l.contains (b-h0)):=by simp only[yv,qe8]
def qcv (r:Option j8)(v:qa):Option qq:=match r with
 |some h'=>some ⟨v,false,none,h'⟩
 |none=>none
@[go_sem] theorem j65 {v:qa}:qcv (some h) v=some ⟨v,false,none,h⟩:=rfl
@[go_sem] theorem j7f {h0 r:Nat}{es:List (qa×qa)}:q9b h0 r h true (some es)=qcv (newBox h0 h r (.map es)) (.map (h0+r)):=rfl
def jim (n:Nat)(h:j8)(b:Option qn)(x:qn):Option j8:=match b with
 |some .hole=>some (h.set n x)
 |_=>none
@[go_sem] theorem j8z {n:Nat}{x:qn}:jim n h (some .hole) x=some (h.set n x):=rfl
@[go_sem] theorem j67 {r:Nat}{x:qn}:newBox h0 h r x=jim (h0+r) h h[h0+r]? x:=by
 unfold newBox jim;rfl
def ifR (b:Bool)(r:Option qq):Option qq:=match b with
 |true=>r
 |false=>none
@[go_sem] theorem zca {r:Option qq}:ifR true r=r:=rfl
@[go_sem] theorem ziq {r:Nat}{z:List qa}:j9 p xc h0 al e h (.alloc r z)=ifR (z.all ze) (qcv (newBox h0 h r (.cells (cellsOf z))) (.ptr (h0+r) 0)):=by
 simp only[j9,zj,ifR]
 cases z.all ze with
 |false=>rfl
 |true=>simp only[cT,qcv];cases newBox h0 h r (.cells (cellsOf z))<;>rfl
def jaf (n:Nat)(h:j8)(x:Option qa):Option qq:=match x with
 |some v=>ifR (Nat.beq v.flat.length n&&v.flat.all ze) (some ⟨.vptr v,false,none,h⟩)
 |none=>none
@[go_sem] theorem j4n {n:Nat}{v:qa}:jaf n h (some v)=ifR (Nat.beq v.flat.length n&&v.flat.all ze) (some ⟨.vptr v,false,none,h⟩):=rfl
@[go_sem] theorem zjc {n:Nat}{x:qh}:j9 p xc h0 al e h (.vbox n x)=jaf n h (zc e x):=by
 simp only[j9,zh,jaf]
 cases zc e x with
 |none=>rfl
 |some v=>
  simp only[ifR]
  cases (Nat.beq v.flat.length n&&v.flat.all ze)<;>rfl
def jdd (h0 r n:Nat)(h:j8)(x:Option qa):Option qq:=match x with
 |some v=>ifR (Nat.beq v.flat.length n&&v.flat.all ze) (qcv (newBox h0 h r (.cells (cellsOf v.flat))) (.ptr (h0+r) 0))
 |none=>none
@[go_sem] theorem j7s {r n:Nat}{v:qa}:jdd h0 r n h (some v)=ifR (Nat.beq v.flat.length n&&v.flat.all ze) (qcv (newBox h0 h r (.cells (cellsOf v.flat))) (.ptr (h0+r) 0)):=rfl
@[go_sem] theorem zjz {r n:Nat}{x:qh}:j9 p xc h0 al e h (.box r n x)=jdd h0 r n h (zc e x):=by
 simp only[j9,zj,jdd]
 cases zc e x with
 |none=>rfl
 |some v=>
  simp only[ifR,qcv]
  cases (Nat.beq v.flat.length n&&v.flat.all ze)with
  |false=>rfl
  |true=>simp only[cT];cases newBox h0 h r (.cells (cellsOf v.flat))<;>rfl
@[go_sem] theorem zh8 {r:Nat}:j9 p xc h0 al e h (.mkmap r)=qcv (newBox h0 h r (.map [])) (.map (h0+r)):=by
 simp only[j9,zj,qcv]
 cases newBox h0 h r (.map [])<;>rfl
@[go_sem] theorem ju3:cellsOf []=[]:=rfl
@[go_sem] theorem jpd {v:qa}{vs:List qa}:cellsOf (v::vs)=(v,false)::cellsOf vs:=rfl
def qio (agg:Bool)(h:j8)(r:Option qa):Option qq:=match r with
 |some v=>bif Bool.xor agg v.isAgg then none else val h (.vptr v)
 |none=>none
def qf3 (agg:Bool)(off n:Nat)(h:j8)(x:Option qa):Option qq:=match x with
 |some (.ptr b o)=>val h (.ptr b (o+off))
 |some (.vptr (.agg cs))=>qio agg h (part agg cs off n)
 |some (.vel b ver o)=>val h (.vel b ver (o+off))
 |_=>none
@[go_sem] theorem jnb {agg:Bool}{off n b v o:Nat}:qf3 agg off n h (some (.vel b v o))=some ⟨.vel b v (o+off),false,none,h⟩:=rfl
@[go_sem] theorem jnk {agg:Bool}{off n b o:Nat}:qf3 agg off n h (some (.ptr b o))=some ⟨.ptr b (o+off),false,none,h⟩:=rfl
@[go_sem] theorem jl7 {agg:Bool}{off n:Nat}{cs:List qa}:qf3 agg off n h (some (.vptr (.agg cs)))=qio agg h (part agg cs off n):=rfl
@[go_sem] theorem ju7 {agg:Bool}{off n:Nat}{x:qh}:j9 p xc h0 al e h (.fieldAddr agg off n x)=qf3 agg off n h (zc e x):=by
 simp only[j9,zh,qf3]
 cases zc e x with
 |none=>rfl
 |some v=>cases v with
  |vptr v=>cases v<;>rfl
  |_=>rfl
def zjq (v:qa):Prop:=v.isAgg=false
theorem j7o {v:qa}(hv:v.isAgg=false):qio false h (some v)=some ⟨.vptr v,false,none,h⟩:=by simp[qio,hv,val]
@[go_sem] theorem j7u {k:IntKind}{n:Int}:qio false h (some (.int k n))=some ⟨.vptr (.int k n),false,none,h⟩:=rfl
@[go_sem] theorem j84 {s:List UInt8}:qio false h (some (.str s))=some ⟨.vptr (.str s),false,none,h⟩:=rfl
@[go_sem] theorem j01 {b:Bool}:qio false h (some (.bool b))=some ⟨.vptr (.bool b),false,none,h⟩:=rfl
@[go_sem] theorem j95 {z:Nat}{f:α→qa}{l:Option (List α)}:qio false h (some (sl z f l))=some ⟨.vptr (sl z f l),false,none,h⟩:=by cases l<;>rfl
@[go_sem] theorem j7c {cs:List qa}:qio true h (some (.agg cs))=some ⟨.vptr (.agg cs),false,none,h⟩:=rfl
@[go_sem] theorem zha {cs:List qa}{off n:Nat}:part false cs off n=cs[off]?:=rfl
def q7h (b:Bool)(cs:List qa)(off n:Nat):Option qa:=match b with
 |true=>some (.agg ((cs.drop off).take n))
 |false=>none
@[go_sem] theorem j6b {cs:List qa}{off n:Nat}:q7h true cs off n=some (.agg ((cs.drop off).take n)):=rfl
@[go_sem] theorem zge {cs:List qa}{off n:Nat}:part true cs off n=q7h (decide (off+n≤cs.length)) cs off n:=by
 simp only[part,q7h,cT,qcf]
 cases decide (off+n≤cs.length)<;>rfl
@[go_sem] theorem zfo {z:Nat}{f:α→qa}{l:Option (List α)}:qas h0 al false 1 h (some (.vptr (sl z f l)))=some ⟨sl z f l,false,none,h⟩:=by cases l<;>rfl
def jiu (h:j8)(cs:List qa)(b:Bool):Option qq:=match b with
 |true=>some ⟨.agg cs,false,none,h⟩
 |false=>none
@[go_sem] theorem j8m {cs:List qa}:jiu h cs true=some ⟨.agg cs,false,none,h⟩:=rfl
@[go_sem] theorem j5p {n:Nat}{cs:List qa}:qas h0 al true n h (some (.vptr (.agg cs)))=jiu h cs (decide (cs.length=n)):=by
 unfold jiu
 by_cases hn:cs.length=n
 ·rw[jav hn];simp[hn]
 ·simp[qas,qa.isAgg,qa.flat,hn,qte]
def q2f (agg:Bool)(h:j8)(vs:Option (List qa)):Option qq:=match vs with
 |some vs=>bif agg then val h (.agg vs)else(match vs with
  | [v]=>val h v
  |_=>none)
 |none=>none
@[go_sem] theorem zgc {vs:List qa}:q2f true h (some vs)=some ⟨.agg vs,false,none,h⟩:=rfl
@[go_sem] theorem j9z {v:qa}:q2f false h (some [v])=some ⟨v,false,none,h⟩:=rfl
def q2r (b:Option qn):Option (List (qa×Bool)):=match b with
 |some (.cells cs)=>some cs
 |_=>none
@[go_sem] theorem jvb {cs:List (qa×Bool)}:q2r (some (.cells cs))=some cs:=rfl
@[go_sem] theorem q5w {b:Nat}:yn h b=q2r h[b]?:=by unfold yn q2r;rfl
def ldC (b:Bool)(cs:List (qa×Bool))(off n:Nat):Option (List qa):=match b with
 |true=>some (((cs.drop off).take n).map (·.1))
 |false=>none
@[go_sem] theorem zev {cs:List (qa×Bool)}{off n:Nat}:ldC true cs off n=some (((cs.drop off).take n).map (·.1)):=rfl
@[go_sem] theorem jq4 {cs:List (qa×Bool)}{off n:Nat}:y9 cs off n=ldC (decide (off+n≤cs.length)) cs off n:=by
 simp only[y9,ldC,qcf]
 cases decide (off+n≤cs.length)<;>rfl
def ji0 (agg:Bool)(o n:Nat)(h:j8)(cs:Option (List (qa×Bool))):Option qq:=match cs with
 |some cs=>q2f agg h (y9 cs o n)
 |none=>none
@[go_sem] theorem j81 {agg:Bool}{o n:Nat}{cs:List (qa×Bool)}:ji0 agg o n h (some cs)=q2f agg h (y9 cs o n):=rfl
@[go_sem] theorem j7e {agg:Bool}{n b o:Nat}:qas h0 al agg n h (some (.ptr b o))=ifR (yv h0 al b) (ji0 agg o n h (yn h b)):=by
 simp only[qas,ifR,ji0,q2f]
 cases yv h0 al b with
 |false=>rfl
 |true=>
  simp only[cT]
  cases yn h b with
  |none=>rfl
  |some cs=>simp only[];cases y9 cs o n<;>rfl
def q1a (r:Option j8)(v:qa)(w:Bool):Option qq:=match r with
 |some h'=>some ⟨v,w,none,h'⟩
 |none=>none
@[go_sem] theorem j4a {v:qa}{w:Bool}:q1a (some h) v w=some ⟨v,w,none,h⟩:=rfl
def q1m (h:j8)(b o:Nat)(cs:List (qa×Bool))(x:Option (qa×Bool)):Option qq:=match x with
 |some (v,w)=>q1a (ym h b (.cells (cs.set o (v,false)))) v w
 |none=>none
@[go_sem] theorem jwi {b o:Nat}{cs:List (qa×Bool)}{v:qa}{w:Bool}:q1m h b o cs (some (v,w))=q1a (ym h b (.cells (cs.set o (v,false)))) v w:=rfl
def q1j (h:j8)(b o:Nat)(cs:Option (List (qa×Bool))):Option qq:=match cs with
 |some cs=>q1m h b o cs cs[o]?
 |none=>none
@[go_sem] theorem j56 {b o:Nat}{cs:List (qa×Bool)}:q1j h b o (some cs)=q1m h b o cs cs[o]?:=rfl
def qsi (h0:Nat)(al:Option (List Nat))(off:Option Nat)(h:j8)(x:Option qa):Option qq:=match x with
 |some (.ptr b o)=>ifR (yv h0 al b&&qim off o) (q1j h b o (yn h b))
 |_=>none
@[go_sem] theorem jnd {off:Option Nat}{b o:Nat}:qsi h0 al off h (some (.ptr b o))=ifR (yv h0 al b&&qim off o) (q1j h b o (yn h b)):=rfl
@[go_sem] theorem jzs {o:Nat}:qim none o=true:=rfl
@[go_sem] theorem j0e {a o:Nat}:qim (some a) o=decide (a=o):=by simp only[qim,qte]
@[go_sem] theorem j07 {off:Option Nat}{x:qh}:j9 p xc h0 al e h (.loadTake off x)=qsi h0 al off h (zc e x):=by
 simp only[j9,zj,qsi]
 cases zc e x with
 |none=>rfl
 |some v=>cases v with
  |ptr b o=>
   simp only[ifR,q1j,q1m,q1a]
   cases (yv h0 al b&&qim off o)with
   |false=>rfl
   |true=>
    simp only[cT]
    cases yn h b with
    |none=>rfl
    |some cs=>
     simp only[]
     cases cs[o]? with
     |none=>rfl
     |some c=>
      obtain⟨v,w⟩:=c
      simp only[]
      cases ym h b (.cells (cs.set o (v,false)))<;>rfl
  |_=>rfl
def jfl (b:Bool)(n:Nat)(x:qn)(h:j8):Option j8:=match b with
 |true=>some (h.set n x)
 |false=>none
@[go_sem] theorem j7n {n:Nat}{x:qn}:jfl true n x h=some (h.set n x):=rfl
@[go_sem] theorem j8d {b:Nat}{x:qn}:ym h b x=jfl (decide (b<h.length)) b x h:=by
 simp only[ym,jfl,qe8]
 cases decide (b<h.length)<;>rfl
def stC (b:Bool)(cs:List (qa×Bool))(off:Nat)(vs:List qa):Option (List (qa×Bool)):=match b with
 |true=>some (cs.take off++vs.map (·,false)++cs.drop (off+vs.length))
 |false=>none
@[go_sem] theorem zf7 {cs:List (qa×Bool)}{off:Nat}{vs:List qa}:stC true cs off vs=some (cs.take off++vs.map (·,false)++cs.drop (off+vs.length)):=rfl
@[go_sem] theorem jm9 {cs:List (qa×Bool)}{off:Nat}{vs:List qa}:yj cs off vs=stC (decide (off+vs.length≤cs.length)&&vs.all ze) cs off vs:=by
 simp only[yj,stC,qcf]
 cases (decide (off+vs.length≤cs.length)&&vs.all ze)<;>rfl
def zkg (e:Env)(x:qh):Option Nat:=kh e x
def q69 (t:Nat)(x:Option (qa×Bool)):Option Nat:=match x with
 |some (_,true)=>some t
 |_=>none
@[go_sem] theorem j7h {t:Nat}{v:qa}:q69 t (some (v,true))=some t:=rfl
@[go_sem] theorem j2z {t:Nat}{v:qa}:q69 t (some (v,false))=none:=rfl
@[go_sem] theorem j8u {t:Nat}:kh e (.tmp t)=q69 t (ye t e):=by
 simp only[kh,q69];rfl
@[go_sem] theorem jvt {v:qa}:kh e (.const v)=none:=rfl
def qs7 (h:j8)(b:Nat)(cs:Option (List (qa×Bool))):Option qq:=match cs with
 |some cs'=>qcv (ym h b (.cells cs')) .undef
 |none=>none
@[go_sem] theorem joa {b:Nat}{cs:List (qa×Bool)}:qs7 h b (some cs)=qcv (ym h b (.cells cs)) .undef:=rfl
def q1b (t:Nat)(r:Option j8):Option qq:=match r with
 |some h'=>some ⟨.undef,false,some t,h'⟩
 |none=>none
@[go_sem] theorem j4s {t:Nat}:q1b t (some h)=some ⟨.undef,false,some t,h⟩:=rfl
def qq9 (n:Nat)(h:j8)(b o:Nat)(v:qa)(own:Option Nat)(cs:Option (List (qa×Bool))):Option qq:=match cs,own with
 |some cs,some t=>ifR (Nat.beq n 1&&v.isList&&Nat.blt o cs.length) (q1b t (ym h b (.cells (cs.set o (v,true)))))
 |some cs,none=>ifR (Nat.beq v.flat.length n) (qs7 h b (yj cs o v.flat))
 |none,_=>none
@[go_sem] theorem jxy {n b o t:Nat}{v:qa}{cs:List (qa×Bool)}:qq9 n h b o v (some t) (some cs)=ifR (Nat.beq n 1&&v.isList&&Nat.blt o cs.length) (q1b t (ym h b (.cells (cs.set o (v,true))))):=rfl
@[go_sem] theorem jth {n b o:Nat}{v:qa}{cs:List (qa×Bool)}:qq9 n h b o v none (some cs)=ifR (Nat.beq v.flat.length n) (qs7 h b (yj cs o v.flat)):=rfl
def q23 (h0:Nat)(al:Option (List Nat))(n:Nat)(h:j8)(own:Option Nat)(a x:Option qa):Option qq:=match a,x with
 |some (.ptr b o),some v=>ifR (yv h0 al b) (qq9 n h b o v own (yn h b))
 |_,_=>none
@[go_sem] theorem j5u {n b o:Nat}{own:Option Nat}{v:qa}:q23 h0 al n h own (some (.ptr b o)) (some v)=ifR (yv h0 al b) (qq9 n h b o v own (yn h b)):=rfl
@[go_sem] theorem zh7 {n:Nat}{a x:qh}:j9 p xc h0 al e h (.store n a x)=q23 h0 al n h (kh e x) (zc e a) (zc e x):=by
 simp only[j9,zj,q23]
 cases zc e a with
 |none=>rfl
 |some va=>
  cases va with
  |ptr b o=>
   cases zc e x with
   |none=>rfl
   |some v=>
    simp only[ifR]
    cases yv h0 al b with
    |false=>rfl
    |true=>
     simp only[cT]
     cases yn h b with
     |none=>rfl
     |some cs=>
      simp only[qq9]
      cases kh e x with
      |none=>
       simp only[ifR,qs7,qcv]
       cases Nat.beq v.flat.length n with
       |false=>rfl
       |true=>
        simp only[cT]
        cases yj cs o v.flat with
        |none=>rfl
        |some cs'=>simp only[];cases ym h b (.cells cs')<;>rfl
      |some t=>
       simp only[ifR,q1b]
       cases (Nat.beq n 1&&v.isList&&Nat.blt o cs.length)with
       |false=>rfl
       |true=>simp only[cT];cases ym h b (.cells (cs.set o (v,true)))<;>rfl
  |_=>rfl
@[go_sem] theorem jux {b:Bool}{z:Nat}{xs:List qa}:qa.isList (.list b z xs)=true:=rfl
@[go_sem] theorem j70 {z:Nat}{f:α→qa}{l:Option (List α)}:qa.isList (sl z f l)=true:=by cases l<;>rfl
def qw6 (b:Bool)(off:Nat)(vs:List qa)(l:Option (List (Nat×List qa))):Option (List (Nat×List qa)):=match b,l with
 |true,some r=>some ((off,vs)::r)
 |_,_=>none
@[go_sem] theorem jvj {off:Nat}{vs:List qa}{r:List (Nat×List qa)}:qw6 true off vs (some r)=some ((off,vs)::r):=rfl
def q3p (x:Option qa)(off n:Nat)(l:Option (List (Nat×List qa))):Option (List (Nat×List qa)):=match x with
 |some v=>qw6 (Nat.beq v.flat.length n&&v.flat.all ze) off v.flat l
 |none=>none
@[go_sem] theorem ju2 {v:qa}{off n:Nat}{l:Option (List (Nat×List qa))}:q3p (some v) off n l=qw6 (Nat.beq v.flat.length n&&v.flat.all ze) off v.flat l:=rfl
@[go_sem] theorem jnf:qa2 e []=some []:=rfl
@[go_sem] theorem jld {off n:Nat}{x:qh}{l:List (Nat×Nat×qh)}:qa2 e ((off,n,x)::l)=q3p (zc e x) off n (qa2 e l):=by
 simp only[qa2,q3p,qw6]
 cases zc e x with
 |none=>rfl
 |some v=>simp only[];cases (Nat.beq v.flat.length n&&v.flat.all ze)<;>cases qa2 e l<;>rfl
def fillR (h:j8)(zero:List qa)(ps:Option (List (Nat×List qa))):Option qq:=match ps with
 |some ps=>fillS h (qcr zero ps)
 |none=>none
where fillS (h:j8) (r:Option (List qa)):Option qq:=match r with
 |some cs=>some ⟨.agg cs,false,none,h⟩
 |none=>none
@[go_sem] theorem j55 {zero:List qa}{ps:List (Nat×List qa)}:fillR h zero (some ps)=fillR.fillS h (qcr zero ps):=rfl
@[go_sem] theorem j18 {cs:List qa}:fillR.fillS h (some cs)=some ⟨.agg cs,false,none,h⟩:=rfl
@[go_sem] theorem zix {zero:List qa}{ps:List (Nat×Nat×qh)}:j9 p xc h0 al e h (.build zero ps)=fillR h zero (qa2 e ps):=by
 simp only[j9,zh,fillR,fillR.fillS]
 cases qa2 e ps with
 |none=>rfl
 |some ps=>simp only[];cases qcr zero ps<;>rfl
@[go_sem] theorem j62 {cs:List qa}:qcr cs []=some cs:=rfl
def q9n (b:Bool)(cs:List qa)(off:Nat)(vs:List qa)(l:List (Nat×List qa)):Option (List qa):=match b with
 |true=>qcr (cs.take off++vs++cs.drop (off+vs.length)) l
 |false=>none
@[go_sem] theorem jz7 {cs:List qa}{off:Nat}{vs:List qa}{l:List (Nat×List qa)}:q9n true cs off vs l=qcr (cs.take off++vs++cs.drop (off+vs.length)) l:=rfl
@[go_sem] theorem j38 {cs:List qa}{off:Nat}{vs:List qa}{l:List (Nat×List qa)}:qcr cs ((off,vs)::l)=q9n (decide (off+vs.length≤cs.length)) cs off vs l:=by
 simp only[qcr,q9n,qcf]
 cases decide (off+vs.length≤cs.length)<;>rfl
def elemsO (x:Option qa)(i sz:Nat)(l:Option (List (Nat×qa))):Option (List (Nat×qa)):=match x with
 |some v=>elemsC (Nat.beq v.flat.length sz&&v.flat.all ze) i v l
 |none=>none
where elemsC (b:Bool) (i:Nat) (v:qa) (l:Option (List (Nat×qa))):Option (List (Nat×qa)):=match b,l with
 |true,some r=>some ((i,v)::r)
 |_,_=>none
@[go_sem] theorem juu {v:qa}{i sz:Nat}{l:Option (List (Nat×qa))}:elemsO (some v) i sz l=elemsO.elemsC (Nat.beq v.flat.length sz&&v.flat.all ze) i v l:=rfl
@[go_sem] theorem juz {v:qa}{i:Nat}{r:List (Nat×qa)}:elemsO.elemsC true i v (some r)=some ((i,v)::r):=rfl
@[go_sem] theorem jnc {sz:Nat}:qac e sz []=some []:=rfl
@[go_sem] theorem jl9 {sz i:Nat}{x:qh}{l:List (Nat×qh)}:qac e sz ((i,x)::l)=elemsO (zc e x) i sz (qac e sz l):=by
 simp only[qac,elemsO,elemsO.elemsC]
 cases zc e x with
 |none=>rfl
 |some v=>simp only[];cases (Nat.beq v.flat.length sz&&v.flat.all ze)<;>cases qac e sz l<;>rfl
@[go_sem] theorem j8n {xs:List qa}:qdp xs []=some xs:=rfl
def q4j (b:Bool)(xs:List qa)(i:Nat)(v:qa)(l:List (Nat×qa)):Option (List qa):=match b with
 |true=>qdp (xs.set i v) l
 |false=>none
@[go_sem] theorem jvk {xs:List qa}{i:Nat}{v:qa}{l:List (Nat×qa)}:q4j true xs i v l=qdp (xs.set i v) l:=rfl
@[go_sem] theorem jza {xs:List qa}{i:Nat}{v:qa}{l:List (Nat×qa)}:qdp xs ((i,v)::l)=q4j (decide (i<xs.length)) xs i v l:=by
 simp only[qdp,q4j,qe8]
 cases decide (i<xs.length)<;>rfl
def sliceR (sz:Nat)(h:j8)(xs:List qa)(ps:Option (List (Nat×qa))):Option qq:=match ps with
 |some ps=>sliceS sz h (qdp xs ps)
 |none=>none
where sliceS (sz:Nat) (h:j8) (r:Option (List qa)):Option qq:=match r with
 |some xs=>some ⟨.list false sz xs,true,none,h⟩
 |none=>none
@[go_sem] theorem jvn {sz:Nat}{xs:List qa}{ps:List (Nat×qa)}:sliceR sz h xs (some ps)=sliceR.sliceS sz h (qdp xs ps):=rfl
@[go_sem] theorem juw {sz:Nat}{xs:List qa}:sliceR.sliceS sz h (some xs)=some ⟨.list false sz xs,true,none,h⟩:=rfl
@[go_sem] theorem jtl {sz len:Nat}{zero:List qa}{ps:List (Nat×qh)}:j9 p xc h0 al e h (.buildSlice sz len zero ps)=sliceR sz h (List.replicate len (bif Nat.beq sz 1 then zero.headD .undef else .agg zero)) (qac e sz ps):=by
 simp only[j9,zh,sliceR,sliceR.sliceS]
 cases qac e sz ps with
 |none=>rfl
 |some ps=>simp only[];cases qdp (List.replicate len (bif Nat.beq sz 1 then zero.headD .undef else .agg zero)) ps<;>rfl
def appR (sz bytes:Nat)(h:j8)(own:Option Nat)(x y:Option qa):Option qq:=match x,y with
 |some (.list n sz' xs),some vy=>ifR (n||own.isSome) (appS sz bytes h own n sz' xs (kl sz vy))
 |_,_=>none
where appS (sz bytes:Nat) (h:j8) (own:Option Nat) (n:Bool) (sz':Nat) (xs:List qa) (ys:Option (List qa)):Option qq:=match ys with
 |some ys=>ifR ((Nat.beq sz sz'||(xs.isEmpty&&n))&&Nat.ble (xs.length+ys.length) 1073741824&&Nat.ble bytes 4096&&Nat.blt 0 sz) (some ⟨qht n sz xs ys,true,own,h⟩)
 |none=>none
@[go_sem] theorem j7q {sz bytes:Nat}{own:Option Nat}{n:Bool}{sz':Nat}{xs:List qa}{vy:qa}:appR sz bytes h own (some (.list n sz' xs)) (some vy)=ifR (n||own.isSome) (appR.appS sz bytes h own n sz' xs (kl sz vy)):=rfl
@[go_sem] theorem j8y {sz bytes:Nat}{own:Option Nat}{n:Bool}{sz':Nat}{xs ys:List qa}:appR.appS sz bytes h own n sz' xs (some ys)=ifR ((Nat.beq sz sz'||(xs.isEmpty&&n))&&Nat.ble (xs.length+ys.length) 1073741824&&Nat.ble bytes 4096&&Nat.blt 0 sz) (some ⟨qht n sz xs ys,true,own,h⟩):=rfl
@[go_sem] theorem zed {sz bytes:Nat}{x y:qh}:j9 p xc h0 al e h (.append none sz bytes x y)=appR sz bytes h (kh e x) (zc e x) (zc e y):=by
 simp only[j9,zh,appR,appR.appS]
 cases zc e x with
 |none=>rfl
 |some vx=>
  cases vx with
  |list n sz' xs=>
   cases zc e y with
   |none=>rfl
   |some vy=>
    simp only[ifR]
    cases (n||(kh e x).isSome)with
    |false=>rfl
    |true=>
     simp only[cT]
     cases kl sz vy with
     |none=>rfl
     |some ys=>simp only[];cases ((Nat.beq sz sz'||(xs.isEmpty&&n))&&Nat.ble (xs.length+ys.length) 1073741824&&Nat.ble bytes 4096&&Nat.blt 0 sz)<;>rfl
  |_=>cases zc e y<;>rfl
@[go_sem] theorem q2l {z:Nat}{f:α→qa}{l:Option (List α)}:kl z (sl z f l)=some ((l.getD []).map f):=by
 cases l<;>simp[kl,sl]
@[go_sem] theorem j98 {z:Nat}{b:Bool}{xs:List qa}:kl z (.list b z xs)=some xs:=by simp[kl]
@[go_sem] theorem zit {z z':Nat}{b:Bool}:kl z (.list b z' [])=some []:=by simp[kl]
@[go_sem] theorem ju1 {z:Nat}{xs ys:List qa}:qht false z xs ys=.list false z (xs++ys):=rfl
@[go_sem] theorem j58 {z:Nat}{b:Bool}{xs:List qa}{y:qa}{ys:List qa}:qht b z xs (y::ys)=.list false z (xs++y::ys):=by cases b<;>rfl
attribute [go_sem] Option.isSome_some Option.isSome_none Bool.or_true Bool.true_or List.isEmpty_nil List.isEmpty_cons Bool.and_false Bool.false_and
def quh (h:j8)(i:Nat)(x:Option qa):Option qq:=match x with
 |some (.tup vs)=>qcj h vs[i]?
 |_=>none
@[go_sem] theorem jta {i:Nat}{vs:List qa}:quh h i (some (.tup vs))=qcj h vs[i]?:=rfl
@[go_sem] theorem j8v {i:Nat}{x:qh}:j9 p xc h0 al e h (.extract x i)=quh h i (zc e x):=by
 simp only[j9,zh,quh]
 cases zc e x with
 |none=>rfl
 |some v=>cases v<;>rfl
def un1 (op:UnOp)(h:j8)(x:Option qa):Option qq:=match x with
 |some v=>qcj h (ql4 op v)
 |none=>none
@[go_sem] theorem zew {op:UnOp}{v:qa}:un1 op h (some v)=qcj h (ql4 op v):=rfl
@[go_sem] theorem zke {op:UnOp}{x:qh}:j9 p xc h0 al e h (.un op x)=un1 op h (zc e x):=by
 simp only[j9,zh,un1]
 cases zc e x<;>rfl
@[go_sem] theorem zi7 {b:Bool}:ql4 .not (.bool b)=some (.bool (!b)):=rfl
@[go_sem] theorem zjk {k:IntKind}{n:Int}:ql4 .neg (.int k n)=some (.int k (j6 k (0-n))):=rfl
def jeh (neq:Bool)(h:j8)(x y:Option qa):Option qq:=match x,y with
 |some (.bool a),some (.bool b)=>val h (.bool (bif neq then !(a == b)else a == b))
 |_,_=>none
@[go_sem] theorem j74 {neq a b:Bool}:jeh neq h (some (.bool a)) (some (.bool b))=some ⟨.bool (bif neq then !(a == b)else a == b),false,none,h⟩:=rfl
@[go_sem] theorem zj9 {neq:Bool}{x y:qh}:j9 p xc h0 al e h (.beq neq x y)=jeh neq h (zc e x) (zc e y):=by
 simp only[j9,zh,jeh]
 cases zc e x with
 |none=>rfl
 |some v=>cases v<;>cases zc e y<;>rfl
def qzm (f:Fn)(h:j8)(a b:Option (List qa)):Option qq:=match a,b with
 |some a,some b=>val h (.fn f a b)
 |_,_=>none
@[go_sem] theorem jom {f:Fn}{a b:List qa}:qzm f h (some a) (some b)=some ⟨.fn f a b,false,none,h⟩:=rfl
@[go_sem] theorem zb8 {f:Fn}{a b:List qh}:j9 p xc h0 al e h (.mkfunc f a b)=qzm f h (qa9 e a) (qa9 e b):=by
 simp only[j9,zh,qzm]
 cases qa9 e a<;>cases qa9 e b<;>rfl
def mxR (f:qa→qa→Option qa)(h:j8)(l:Option (List qa)):Option qq:=match l with
 |some (v::vs)=>qcj h (qff f v vs)
 |_=>none
@[go_sem] theorem j9w {f:qa→qa→Option qa}{v:qa}{vs:List qa}:mxR f h (some (v::vs))=qcj h (qff f v vs):=rfl
@[go_sem] theorem zkf {l:List qh}:j9 p xc h0 al e h (.mx l)=mxR max2 h (qa9 e l):=by
 simp only[j9,zh,mxR]
 cases qa9 e l with
 |none=>rfl
 |some vs=>cases vs<;>rfl
@[go_sem] theorem zki {l:List qh}:j9 p xc h0 al e h (.mn l)=mxR min2 h (qa9 e l):=by
 simp only[j9,zh,mxR]
 cases qa9 e l with
 |none=>rfl
 |some vs=>cases vs<;>rfl
def q99 (f:qa→qa→Option qa)(x:Option qa)(l:List qa):Option qa:=match x with
 |some z=>qff f z l
 |none=>none
@[go_sem] theorem jxe {f:qa→qa→Option qa}{x:qa}{l:List qa}:q99 f (some x) l=qff f x l:=rfl
@[go_sem] theorem j6y {f:qa→qa→Option qa}{x:qa}:qff f x []=some x:=rfl
@[go_sem] theorem jxb {f:qa→qa→Option qa}{x y:qa}{l:List qa}:qff f x (y::l)=q99 f (f x y) l:=by
 simp only[qff,q99];rfl
@[go_sem] theorem zgv {k:IntKind}{x y:Int}:max2 (.int k x) (.int k y)=some (.int k (max x y)):=by
 simp only[max2,decide_true,cT]
 congr 2
 by_cases h:y > x
 ·rw[if_pos h];omega
 ·rw[if_neg h];omega
@[go_sem] theorem zey {k:IntKind}{x y:Int}:min2 (.int k x) (.int k y)=some (.int k (min x y)):=by
 simp only[min2,decide_true,cT]
 congr 2
 by_cases h:y<x
 ·rw[if_pos h];omega
 ·rw[if_neg h];omega
def q3q (k:Nat)(neq:Bool)(h:j8)(x:Option qa):Option qq:=match k,x with
  |0,some (.list n _ _)=>val h (.bool (bif neq then !n else n))
  |0,some (.ms ..)=>val h (.bool neq)
  |1,some .nilptr=>val h (.bool (!neq))
  |1,some (.ptr ..)=>val h (.bool neq)
  |1,some (.vptr ..)=>val h (.bool neq)
  |2,some .nilmap=>val h (.bool (!neq))
  |2,some (.map ..)=>val h (.bool neq)
  |3,some .nilfn=>val h (.bool (!neq))
  |3,some (.fn ..)=>val h (.bool neq)
  |_,_=>none
@[go_sem] theorem zi3 {k:Nat}{neq:Bool}{x:qh}:j9 p xc h0 al e h (.nilEq k neq x)=q3q k neq h (zc e x):=rfl
@[go_sem] theorem j0u {neq n:Bool}{z:Nat}{xs:List qa}:q3q 0 neq h (some (.list n z xs))=some ⟨.bool (bif neq then !n else n),false,none,h⟩:=rfl
@[go_sem] theorem j7g {n:Nat}{k:IntKind}{i:Int}:below n (.int k i)=true:=rfl
@[go_sem] theorem j6i {n:Nat}{b:Bool}:below n (.bool b)=true:=rfl
@[go_sem] theorem j66 {n:Nat}{s:List UInt8}:below n (.str s)=true:=rfl
@[go_sem] theorem jwq {n:Nat}{b:Bool}{z:Nat}{xs:List qa}:below n (.list b z xs)=zu n xs:=by simp only[below]
@[go_sem] theorem j77 {n:Nat}{xs:List qa}:below n (.agg xs)=zu n xs:=by simp only[below]
@[go_sem] theorem j8h {n:Nat}{xs:List qa}:below n (.tup xs)=zu n xs:=by simp only[below]
@[go_sem] theorem j72 {n b o:Nat}:below n (.ptr b o)=decide (b<n):=by simp only[below,qe8]
@[go_sem] theorem j7j {n b:Nat}:below n (.map b)=decide (b<n):=by simp only[below,qe8]
@[go_sem] theorem zg7 {n k:Nat}{a b:List qa}:below n (.fn (.func k) a b)=(zu n a&&zu n b):=by simp only[below]
@[go_sem] theorem jv4 {n:Nat}:zu n []=true:=by simp only[zu]
@[go_sem] theorem q5b {n:Nat}{x:qa}{xs:List qa}:zu n (x::xs)=(below n x&&zu n xs):=by simp only[zu]
@[go_sem] theorem j3s {n:Nat}{i:Int}:below n (kr i)=true:=rfl
@[go_sem] theorem jws {n z:Nat}{l:Option (List Int)}:below n (sl z kr l)=true:=qdx fun _=>rfl
theorem qv0 {n:Nat}{f:α→qa}(hf:∀x,below n (f x)=true):∀l:List α,zu n (l.map f)=true
 | []=>rfl
 |x::l=>by rw[List.map_cons,q5b,hf,qv0 hf l];rfl
@[go_sem] theorem jvp {n:Nat}{l:List Int}:zu n (l.map kr)=true:=qv0 (fun _=>rfl) l
@[go_sem] theorem zh9 {k:IntKind}{i:Int}:qa4 h (.int k i)=some (.int k i):=rfl
@[go_sem] theorem zfy {b:Bool}:qa4 h (.bool b)=some (.bool b):=rfl
@[go_sem] theorem ziz {s:List UInt8}:qa4 h (.str s)=some (.str s):=rfl
@[go_sem] theorem zbn {b:Bool}{z:Nat}{xs:List qa}:qa4 h (.list b z xs)=some (.list b z xs):=rfl
@[go_sem] theorem jr9 {z:Nat}{f:α→qa}{l:Option (List α)}:qa4 h (sl z f l)=some (sl z f l):=by cases l<;>rfl
@[go_sem] theorem zbp:qby h []=some []:=rfl
@[go_sem] theorem j7a {v:qa}{vs:List qa}:qby h (v::vs)=qgs (qa4 h v) (qby h vs):=by
 simp only[qby,qgs]
 cases qa4 h v with
 |none=>rfl
 |some x=>cases qby h vs<;>rfl
def q8f (l:Option (List qa)):Option qa:=match l with
 |some xs=>some (.agg xs)
 |none=>none
@[go_sem] theorem j85 {xs:List qa}:q8f (some xs)=some (.agg xs):=rfl
@[go_sem] theorem qus {cs:List qa}:freezeR h (.agg cs)=q8f (qby h cs):=by
 simp only[freezeR,q8f]
 cases qby h cs<;>rfl
@[go_sem] theorem zgg {k:IntKind}{i:Int}:freezeR h (.int k i)=some (.int k i):=rfl
@[go_sem] theorem j7m {b:Bool}:freezeR h (.bool b)=some (.bool b):=rfl
@[go_sem] theorem zbf {s:List UInt8}:freezeR h (.str s)=some (.str s):=rfl
@[go_sem] theorem j86 {b:Bool}{z:Nat}{xs:List qa}:freezeR h (.list b z xs)=some (.list b z xs):=rfl
@[go_sem] theorem zis {z:Nat}{f:α→qa}{l:Option (List α)}:freezeR h (sl z f l)=some (sl z f l):=by cases l<;>rfl
def jdv (l:Option (List qa)):Option qa:=match l with
 |some xs=>some (.tup xs)
 |none=>none
@[go_sem] theorem j8e {xs:List qa}:jdv (some xs)=some (.tup xs):=rfl
@[go_sem] theorem zgb {cs:List qa}:freezeR h (.tup cs)=jdv (freezeR.freezeT h cs):=by
 simp only[freezeR,jdv]
 cases freezeR.freezeT h cs<;>rfl
@[go_sem] theorem zhi:freezeR.freezeT h []=some []:=rfl
@[go_sem] theorem zaj {cs vs:List qa}:freezeR.freezeT h (.agg cs::vs)=qgs (q8f (qby h cs)) (freezeR.freezeT h vs):=by
 rw[freezeR.freezeT]
 cases qby h cs with
 |none=>rfl
 |some x=>cases freezeR.freezeT h vs<;>rfl
theorem qkp {v:qa}{vs:List qa}(hv:v.isAgg=false):freezeR.freezeT h (v::vs)=qgs (qa4 h v) (freezeR.freezeT h vs):=by
 have:∀cs,v≠.agg cs:=fun cs hc=>by rw[hc]at hv;cases hv
 rw[freezeR.freezeT]
 ·cases qa4 h v with
  |none=>rfl
  |some x=>cases freezeR.freezeT h vs<;>rfl
 ·exact this
@[go_sem] theorem zgu {k:IntKind}{i:Int}{vs:List qa}:freezeR.freezeT h (.int k i::vs)=qgs (some (.int k i)) (freezeR.freezeT h vs):=qkp rfl
@[go_sem] theorem j75 {b:Bool}{vs:List qa}:freezeR.freezeT h (.bool b::vs)=qgs (some (.bool b)) (freezeR.freezeT h vs):=qkp rfl
@[go_sem] theorem zf6 {s:List UInt8}{vs:List qa}:freezeR.freezeT h (.str s::vs)=qgs (some (.str s)) (freezeR.freezeT h vs):=qkp rfl
@[go_sem] theorem j6p {b:Bool}{z:Nat}{xs vs:List qa}:freezeR.freezeT h (.list b z xs::vs)=qgs (some (.list b z xs)) (freezeR.freezeT h vs):=qkp rfl
@[go_sem] theorem zic {z:Nat}{f:α→qa}{l:Option (List α)}{vs:List qa}:freezeR.freezeT h (sl z f l::vs)=qgs (some (sl z f l)) (freezeR.freezeT h vs):=by
 rw[qkp (by cases l<;>rfl),jr9]
attribute [go_sem] List.contains_cons List.contains_nil
@[go_sem] theorem zi0 {a b:Nat}:(a == b)=decide (a=b):=by
 by_cases hab:a=b<;>simp[hab]
def qwh (agg:Bool)(c:Option (qa×Bool))(vs:Option (List qa)):Option (qa×Bool):=match vs,agg with
 |some vs,true=>some (.agg vs,false)
 |some _,false=>c
 |none,_=>none
@[go_sem] theorem j73 {c:Option (qa×Bool)}{vs:List qa}:qwh true c (some vs)=some (.agg vs,false):=rfl
@[go_sem] theorem j8l {c:Option (qa×Bool)}{vs:List qa}:qwh false c (some vs)=c:=rfl
def q1e (agg:Bool)(o n:Nat)(cs:Option (List (qa×Bool))):Option (qa×Bool):=match cs with
 |some cs=>qwh agg cs[o]? (y9 cs o n)
 |none=>none
@[go_sem] theorem jzz {agg:Bool}{o n:Nat}{cs:List (qa×Bool)}:q1e agg o n (some cs)=qwh agg cs[o]? (y9 cs o n):=rfl
def q89 (agg:Bool)(n:Nat)(h:j8)(x:Option (qa×Bool)):Option (qa×Bool):=match x with
 |some (.ptr b o,_)=>q1e agg o n (yn h b)
 |_=>none
@[go_sem] theorem j8c {agg:Bool}{n b o:Nat}{w:Bool}:q89 agg n h (some (.ptr b o,w))=q1e agg o n (yn h b):=rfl
@[go_sem] theorem jno {t n:Nat}{agg:Bool}:qd4 ⟨e,h⟩ (.cell t agg n)=q89 agg n h (ye t e):=by
 simp only[qd4,q89]
 cases ye t e with
 |none=>rfl
 |some x=>
  obtain⟨v,w⟩:=x
  cases v with
  |ptr b o=>
   simp only[q1e]
   cases yn h b with
   |none=>rfl
   |some cs=>
    simp only[qwh]
    cases y9 cs o n with
    |none=>rfl
    |some vs=>cases agg with
     |true=>rfl
     |false=>simp only[cond_false];cases cs[o]?<;>rfl
  |_=>rfl
theorem kq {k:Nat}{args:List qa}{v v':qa}{o:Bool}(hp:p.prims k=none)(hc:zf p xc k args []=some (v,o,h))(hz:freezeR h v=some v')(hv:below 0 v'=true):jy p xc k args=some (v',o&&v.isList):=by
 unfold jy
 rw[hp]
 simp only[hc,hz,qea,hv,cT]
end
end Go.Abs
