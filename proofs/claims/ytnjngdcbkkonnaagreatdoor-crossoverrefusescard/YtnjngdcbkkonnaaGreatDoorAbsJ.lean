/- Equations of the executor, second part. -/
import Derived.Test.YtnjngdcbkkonnaaGreatDoorAbsI
set_option linter.unusedVariables false
set_option linter.unusedSimpArgs false
namespace Go.Abs
section
variable {p:qn}{xc:XC}{h0:Nat}{al:Option (List Nat)}{e:Env}{h:zd}{α:Type}
attribute [go_sem] List.getElem?_cons_zero List.getElem?_cons_succ List.getElem?_nil List.set_cons_zero List.set_cons_succ List.set_nil List.cons_append List.replicate_zero List.replicate_succ List.map_cons List.map_nil List.all_cons List.all_nil List.drop_zero List.drop_succ_cons List.take_zero List.take_succ_cons List.drop_nil List.take_nil Bool.and_true Bool.true_and Bool.or_false Bool.false_or Bool.and_self List.headD_cons List.foldl_cons List.foldl_nil List.flatMap_cons List.flatMap_nil
@[go_sem] theorem j44 {k:IntKind}{n:Int}:zj (.int k n)=true:=rfl
@[go_sem] theorem j34 {b:Bool}:zj (.bool b)=true:=rfl
@[go_sem] theorem j5a {s:List UInt8}:zj (.str s)=true:=rfl
@[go_sem] theorem j4v {b:Bool}{z:Nat}{xs:List qa}:zj (.list b z xs)=true:=rfl
@[go_sem] theorem j5o {b o n:Nat}:zj (.ms b o n)=true:=rfl
@[go_sem] theorem j42 {b o:Nat}:zj (.ptr b o)=true:=rfl
@[go_sem] theorem j5c {b:Nat}:zj (.map b)=true:=rfl
@[go_sem] theorem jw2:zj .nilptr=true:=rfl
@[go_sem] theorem jxy:zj .nilmap=true:=rfl
@[go_sem] theorem j1f:zj .nilfn=true:=rfl
@[go_sem] theorem j5z {f:Fn}{a b:List qa}:zj (.fn f a b)=true:=rfl
@[go_sem] theorem j50 {z:Nat}{f:α→qa}{l:Option (List α)}:zj (sl z f l)=true:=by cases l<;>rfl
@[go_sem] theorem j1z {cs:List qa}:qa.flat (.agg cs)=cs:=rfl
@[go_sem] theorem j13 {k:IntKind}{n:Int}:qa.flat (.int k n)=[.int k n]:=rfl
@[go_sem] theorem jxe {b:Bool}:qa.flat (.bool b)=[.bool b]:=rfl
@[go_sem] theorem j2m {s:List UInt8}:qa.flat (.str s)=[.str s]:=rfl
@[go_sem] theorem jx2 {b:Bool}{z:Nat}{xs:List qa}:qa.flat (.list b z xs)=[.list b z xs]:=rfl
@[go_sem] theorem j35 {z:Nat}{f:α→qa}{l:Option (List α)}:qa.flat (sl z f l)=[sl z f l]:=by cases l<;>rfl
@[go_sem] theorem j12 {b o:Nat}:qa.flat (.ptr b o)=[.ptr b o]:=rfl
@[go_sem] theorem j1n {b:Nat}:qa.flat (.map b)=[.map b]:=rfl
@[go_sem] theorem j4j {f:Fn}{a b:List qa}:qa.flat (.fn f a b)=[.fn f a b]:=rfl
@[go_sem] theorem j4c {b o n:Nat}:qa.flat (.ms b o n)=[.ms b o n]:=rfl
@[go_sem] theorem qkm {a b:Nat}:Nat.beq a b=decide (a=b):=by
 cases h:Nat.beq a b with
 |true=>have:=Nat.eq_of_beq_eq_true h;simp[this]
 |false=>
  have:a≠b:=fun hh=>by subst hh;simp at h
  simp[this]
@[go_sem] theorem qbx {a b:Nat}:Nat.ble a b=decide (a≤b):=by
 cases h:Nat.ble a b with
 |true=>have:=Nat.le_of_ble_eq_true h;simp[this]
 |false=>
  have:¬a≤b:=fun hh=>by rw[Nat.ble_eq_true_of_le hh]at h;cases h
  simp[this]
@[go_sem] theorem qdb {a b:Nat}:Nat.blt a b=decide (a<b):=by
 show Nat.ble (a+1) b=_
 rw[qbx];rfl
@[go_sem] theorem jyd {b:Nat}:kg h0 none b=true:=rfl
@[go_sem] theorem j36:exl []=false:=rfl
@[go_sem] theorem j00 {k:Nat}{l:List Nat}:exl (k::l)=decide (1000≤k):=by simp only[exl,qbx]
@[go_sem] theorem j0y {k b:Nat}{l:List Nat}:exq h0 (k::l) b=cond (decide (k<2000)) (decide (b=k-1000)&&decide (b<h0)) (decide (b=h0+(k-2000))):=by
 have e:∀x y:Nat,Nat.beq x y=decide (x=y):=fun x y=>by
  cases h:Nat.beq x y with
  |true=>rw[Nat.eq_of_beq_eq_true h];simp
  |false=>
   have:x≠y:=fun e=>by rw[e,Nat.beq_refl]at h;cases h
   simp[this]
 simp only[exq,qdb,e]
@[go_sem] theorem jr6 {b:Nat}{l:List Nat}:kg h0 (some l) b=cond (exl l) (exq h0 l b) (decide (b<h0)||l.contains (b-h0)):=by simp only[kg,qdb]
def qbv (r:Option zd)(v:qa):Option qm:=match r with
 |some h'=>some ⟨v,false,none,h'⟩
 |none=>none
@[go_sem] theorem jxj {v:qa}:qbv (some h) v=some ⟨v,false,none,h⟩:=rfl
@[go_sem] theorem jyr {h0 r:Nat}{es:List (qa×qa)}:q8i h0 r h true (some es)=qbv (newBox h0 h r (.map es)) (.map (h0+r)):=rfl
def jcs (n:Nat)(h:zd)(b:Option qv)(x:qv):Option zd:=match b with
 |some .hole=>some (h.set n x)
 |_=>none
@[go_sem] theorem jwx {n:Nat}{x:qv}:jcs n h (some .hole) x=some (h.set n x):=rfl
@[go_sem] theorem jw4 {r:Nat}{x:qv}:newBox h0 h r x=jcs (h0+r) h h[h0+r]? x:=by
 unfold newBox jcs;rfl
def ifR (b:Bool)(r:Option qm):Option qm:=match b with
 |true=>r
 |false=>none
@[go_sem] theorem j0f {r:Option qm}:ifR true r=r:=rfl
@[go_sem] theorem j4h {r:Nat}{z:List qa}:j9 p xc h0 al e h (.alloc r z)=ifR (z.all zj) (qbv (newBox h0 h r (.cells (cellsOf z))) (.ptr (h0+r) 0)):=by
 simp only[j9,zr,ifR]
 cases z.all zj with
 |false=>rfl
 |true=>simp only[cT,qbv];cases newBox h0 h r (.cells (cellsOf z))<;>rfl
def q8m (n:Nat)(h:zd)(x:Option qa):Option qm:=match x with
 |some v=>ifR (Nat.beq v.flat.length n&&v.flat.all zj) (some ⟨.vptr v,false,none,h⟩)
 |none=>none
@[go_sem] theorem jsk {n:Nat}{v:qa}:q8m n h (some v)=ifR (Nat.beq v.flat.length n&&v.flat.all zj) (some ⟨.vptr v,false,none,h⟩):=rfl
@[go_sem] theorem j5b {n:Nat}{x:qf}:j9 p xc h0 al e h (.vbox n x)=q8m n h (zc e x):=by
 simp only[j9,zn,q8m]
 cases zc e x with
 |none=>rfl
 |some v=>
  simp only[ifR]
  cases (Nat.beq v.flat.length n&&v.flat.all zj)<;>rfl
def jd8 (h0 r n:Nat)(h:zd)(x:Option qa):Option qm:=match x with
 |some v=>ifR (Nat.beq v.flat.length n&&v.flat.all zj) (qbv (newBox h0 h r (.cells (cellsOf v.flat))) (.ptr (h0+r) 0))
 |none=>none
@[go_sem] theorem jxv {r n:Nat}{v:qa}:jd8 h0 r n h (some v)=ifR (Nat.beq v.flat.length n&&v.flat.all zj) (qbv (newBox h0 h r (.cells (cellsOf v.flat))) (.ptr (h0+r) 0)):=rfl
@[go_sem] theorem j5n {r n:Nat}{x:qf}:j9 p xc h0 al e h (.box r n x)=jd8 h0 r n h (zc e x):=by
 simp only[j9,zr,jd8]
 cases zc e x with
 |none=>rfl
 |some v=>
  simp only[ifR,qbv]
  cases (Nat.beq v.flat.length n&&v.flat.all zj)with
  |false=>rfl
  |true=>simp only[cT];cases newBox h0 h r (.cells (cellsOf v.flat))<;>rfl
@[go_sem] theorem jh4 {r:Nat}:j9 p xc h0 al e h (.mkmap r)=qbv (newBox h0 h r (.map [])) (.map (h0+r)):=by
 simp only[j9,zr,qbv]
 cases newBox h0 h r (.map [])<;>rfl
@[go_sem] theorem jn9:cellsOf []=[]:=rfl
@[go_sem] theorem jj1 {v:qa}{vs:List qa}:cellsOf (v::vs)=(v,false)::cellsOf vs:=rfl
def qhf (agg:Bool)(h:zd)(r:Option qa):Option qm:=match r with
 |some v=>bif Bool.xor agg v.isAgg then none else val h (.vptr v)
 |none=>none
def qgt (agg:Bool)(off n:Nat)(h:zd)(x:Option qa):Option qm:=match x with
 |some (.ptr b o)=>val h (.ptr b (o+off))
 |some (.vptr (.agg cs))=>qhf agg h (part agg cs off n)
 |_=>none
@[go_sem] theorem ji4 {agg:Bool}{off n b o:Nat}:qgt agg off n h (some (.ptr b o))=some ⟨.ptr b (o+off),false,none,h⟩:=rfl
@[go_sem] theorem jhr {agg:Bool}{off n:Nat}{cs:List qa}:qgt agg off n h (some (.vptr (.agg cs)))=qhf agg h (part agg cs off n):=rfl
@[go_sem] theorem jod {agg:Bool}{off n:Nat}{x:qf}:j9 p xc h0 al e h (.fieldAddr agg off n x)=qgt agg off n h (zc e x):=by
 simp only[j9,zn,qgt]
 cases zc e x with
 |none=>rfl
 |some v=>cases v with
  |vptr v=>cases v<;>rfl
  |_=>rfl
def j5e (v:qa):Prop:=v.isAgg=false
theorem jw5 {v:qa}(hv:v.isAgg=false):qhf false h (some v)=some ⟨.vptr v,false,none,h⟩:=by simp[qhf,hv,val]
@[go_sem] theorem jx0 {k:IntKind}{n:Int}:qhf false h (some (.int k n))=some ⟨.vptr (.int k n),false,none,h⟩:=rfl
@[go_sem] theorem jyt {s:List UInt8}:qhf false h (some (.str s))=some ⟨.vptr (.str s),false,none,h⟩:=rfl
@[go_sem] theorem jtw {b:Bool}:qhf false h (some (.bool b))=some ⟨.vptr (.bool b),false,none,h⟩:=rfl
@[go_sem] theorem jzh {z:Nat}{f:α→qa}{l:Option (List α)}:qhf false h (some (sl z f l))=some ⟨.vptr (sl z f l),false,none,h⟩:=by cases l<;>rfl
@[go_sem] theorem jxw {cs:List qa}:qhf true h (some (.agg cs))=some ⟨.vptr (.agg cs),false,none,h⟩:=rfl
@[go_sem] theorem j2v {cs:List qa}{off n:Nat}:part false cs off n=cs[off]?:=rfl
def q7f (b:Bool)(cs:List qa)(off n:Nat):Option qa:=match b with
 |true=>some (.agg ((cs.drop off).take n))
 |false=>none
@[go_sem] theorem jqa {cs:List qa}{off n:Nat}:q7f true cs off n=some (.agg ((cs.drop off).take n)):=rfl
@[go_sem] theorem jzv {cs:List qa}{off n:Nat}:part true cs off n=q7f (decide (off+n≤cs.length)) cs off n:=by
 simp only[part,q7f,cT,qbx]
 cases decide (off+n≤cs.length)<;>rfl
@[go_sem] theorem jy0 {z:Nat}{f:α→qa}{l:Option (List α)}:qcp h0 al false 1 h (some (.vptr (sl z f l)))=some ⟨sl z f l,false,none,h⟩:=by cases l<;>rfl
def jc8 (h:zd)(cs:List qa)(b:Bool):Option qm:=match b with
 |true=>some ⟨.agg cs,false,none,h⟩
 |false=>none
@[go_sem] theorem jyh {cs:List qa}:jc8 h cs true=some ⟨.agg cs,false,none,h⟩:=rfl
@[go_sem] theorem jsu {n:Nat}{cs:List qa}:qcp h0 al true n h (some (.vptr (.agg cs)))=jc8 h cs (decide (cs.length=n)):=by
 unfold jc8
 by_cases hn:cs.length=n
 ·rw[jas hn];simp[hn]
 ·simp[qcp,qa.isAgg,qa.flat,hn,qkm]
def q32 (agg:Bool)(h:zd)(vs:Option (List qa)):Option qm:=match vs with
 |some vs=>bif agg then val h (.agg vs)else(match vs with
  | [v]=>val h v
  |_=>none)
 |none=>none
@[go_sem] theorem j3g {vs:List qa}:q32 true h (some vs)=some ⟨.agg vs,false,none,h⟩:=rfl
@[go_sem] theorem jyz {v:qa}:q32 false h (some [v])=some ⟨v,false,none,h⟩:=rfl
def q3e (b:Option qv):Option (List (qa×Bool)):=match b with
 |some (.cells cs)=>some cs
 |_=>none
@[go_sem] theorem jpd {cs:List (qa×Bool)}:q3e (some (.cells cs))=some cs:=rfl
@[go_sem] theorem jo6 {b:Nat}:yl h b=q3e h[b]?:=by unfold yl q3e;rfl
def ldC (b:Bool)(cs:List (qa×Bool))(off n:Nat):Option (List qa):=match b with
 |true=>some (((cs.drop off).take n).map (·.1))
 |false=>none
@[go_sem] theorem jdr {cs:List (qa×Bool)}{off n:Nat}:ldC true cs off n=some (((cs.drop off).take n).map (·.1)):=rfl
@[go_sem] theorem q2g {cs:List (qa×Bool)}{off n:Nat}:qao cs off n=ldC (decide (off+n≤cs.length)) cs off n:=by
 simp only[qao,ldC,qbx]
 cases decide (off+n≤cs.length)<;>rfl
def jd7 (agg:Bool)(o n:Nat)(h:zd)(cs:Option (List (qa×Bool))):Option qm:=match cs with
 |some cs=>q32 agg h (qao cs o n)
 |none=>none
@[go_sem] theorem jxc {agg:Bool}{o n:Nat}{cs:List (qa×Bool)}:jd7 agg o n h (some cs)=q32 agg h (qao cs o n):=rfl
@[go_sem] theorem jxi {agg:Bool}{n b o:Nat}:qcp h0 al agg n h (some (.ptr b o))=ifR (kg h0 al b) (jd7 agg o n h (yl h b)):=by
 simp only[qcp,ifR,jd7,q32]
 cases kg h0 al b with
 |false=>rfl
 |true=>
  simp only[cT]
  cases yl h b with
  |none=>rfl
  |some cs=>simp only[];cases qao cs o n<;>rfl
def q1n (r:Option zd)(v:qa)(w:Bool):Option qm:=match r with
 |some h'=>some ⟨v,w,none,h'⟩
 |none=>none
@[go_sem] theorem jsi {v:qa}{w:Bool}:q1n (some h) v w=some ⟨v,w,none,h⟩:=rfl
def q1i (h:zd)(b o:Nat)(cs:List (qa×Bool))(x:Option (qa×Bool)):Option qm:=match x with
 |some (v,w)=>q1n (yv h b (.cells (cs.set o (v,false)))) v w
 |none=>none
@[go_sem] theorem juo {b o:Nat}{cs:List (qa×Bool)}{v:qa}{w:Bool}:q1i h b o cs (some (v,w))=q1n (yv h b (.cells (cs.set o (v,false)))) v w:=rfl
def q1a (h:zd)(b o:Nat)(cs:Option (List (qa×Bool))):Option qm:=match cs with
 |some cs=>q1i h b o cs cs[o]?
 |none=>none
@[go_sem] theorem jp7 {b o:Nat}{cs:List (qa×Bool)}:q1a h b o (some cs)=q1i h b o cs cs[o]?:=rfl
def qsa (h0:Nat)(al:Option (List Nat))(off:Option Nat)(h:zd)(x:Option qa):Option qm:=match x with
 |some (.ptr b o)=>ifR (kg h0 al b&&qif off o) (q1a h b o (yl h b))
 |_=>none
@[go_sem] theorem ji6 {off:Option Nat}{b o:Nat}:qsa h0 al off h (some (.ptr b o))=ifR (kg h0 al b&&qif off o) (q1a h b o (yl h b)):=rfl
@[go_sem] theorem jud {o:Nat}:qif none o=true:=rfl
@[go_sem] theorem jq5 {a o:Nat}:qif (some a) o=decide (a=o):=by simp only[qif,qkm]
@[go_sem] theorem jq0 {off:Option Nat}{x:qf}:j9 p xc h0 al e h (.loadTake off x)=qsa h0 al off h (zc e x):=by
 simp only[j9,zr,qsa]
 cases zc e x with
 |none=>rfl
 |some v=>cases v with
  |ptr b o=>
   simp only[ifR,q1a,q1i,q1n]
   cases (kg h0 al b&&qif off o)with
   |false=>rfl
   |true=>
    simp only[cT]
    cases yl h b with
    |none=>rfl
    |some cs=>
     simp only[]
     cases cs[o]? with
     |none=>rfl
     |some c=>
      obtain⟨v,w⟩:=c
      simp only[]
      cases yv h b (.cells (cs.set o (v,false)))<;>rfl
  |_=>rfl
def jd1 (b:Bool)(n:Nat)(x:qv)(h:zd):Option zd:=match b with
 |true=>some (h.set n x)
 |false=>none
@[go_sem] theorem jyl {n:Nat}{x:qv}:jd1 true n x h=some (h.set n x):=rfl
@[go_sem] theorem jx3 {b:Nat}{x:qv}:yv h b x=jd1 (decide (b<h.length)) b x h:=by
 simp only[yv,jd1,qdb]
 cases decide (b<h.length)<;>rfl
def stC (b:Bool)(cs:List (qa×Bool))(off:Nat)(vs:List qa):Option (List (qa×Bool)):=match b with
 |true=>some (cs.take off++vs.map (·,false)++cs.drop (off+vs.length))
 |false=>none
@[go_sem] theorem q3x {cs:List (qa×Bool)}{off:Nat}{vs:List qa}:stC true cs off vs=some (cs.take off++vs.map (·,false)++cs.drop (off+vs.length)):=rfl
@[go_sem] theorem qrr {cs:List (qa×Bool)}{off:Nat}{vs:List qa}:qah cs off vs=stC (decide (off+vs.length≤cs.length)&&vs.all zj) cs off vs:=by
 simp only[qah,stC,qbx]
 cases (decide (off+vs.length≤cs.length)&&vs.all zj)<;>rfl
def j6b (e:Env)(x:qf):Option Nat:=kz e x
def q7x (t:Nat)(x:Option (qa×Bool)):Option Nat:=match x with
 |some (_,true)=>some t
 |_=>none
@[go_sem] theorem jys {t:Nat}{v:qa}:q7x t (some (v,true))=some t:=rfl
@[go_sem] theorem jt1 {t:Nat}{v:qa}:q7x t (some (v,false))=none:=rfl
@[go_sem] theorem jwy {t:Nat}:kz e (.tmp t)=q7x t (look t e):=by
 simp only[kz,q7x];rfl
@[go_sem] theorem jo0 {v:qa}:kz e (.const v)=none:=rfl
def qua (h:zd)(b:Nat)(cs:Option (List (qa×Bool))):Option qm:=match cs with
 |some cs'=>qbv (yv h b (.cells cs')) .undef
 |none=>none
@[go_sem] theorem jjn {b:Nat}{cs:List (qa×Bool)}:qua h b (some cs)=qbv (yv h b (.cells cs)) .undef:=rfl
def q1o (t:Nat)(r:Option zd):Option qm:=match r with
 |some h'=>some ⟨.undef,false,some t,h'⟩
 |none=>none
@[go_sem] theorem jwc {t:Nat}:q1o t (some h)=some ⟨.undef,false,some t,h⟩:=rfl
def qsy (n:Nat)(h:zd)(b o:Nat)(v:qa)(own:Option Nat)(cs:Option (List (qa×Bool))):Option qm:=match cs,own with
 |some cs,some t=>ifR (Nat.beq n 1&&v.isList&&Nat.blt o cs.length) (q1o t (yv h b (.cells (cs.set o (v,true)))))
 |some cs,none=>ifR (Nat.beq v.flat.length n) (qua h b (qah cs o v.flat))
 |none,_=>none
@[go_sem] theorem jps {n b o t:Nat}{v:qa}{cs:List (qa×Bool)}:qsy n h b o v (some t) (some cs)=ifR (Nat.beq n 1&&v.isList&&Nat.blt o cs.length) (q1o t (yv h b (.cells (cs.set o (v,true))))):=rfl
@[go_sem] theorem jkg {n b o:Nat}{v:qa}{cs:List (qa×Bool)}:qsy n h b o v none (some cs)=ifR (Nat.beq v.flat.length n) (qua h b (qah cs o v.flat)):=rfl
def q3m (h0:Nat)(al:Option (List Nat))(n:Nat)(h:zd)(own:Option Nat)(a x:Option qa):Option qm:=match a,x with
 |some (.ptr b o),some v=>ifR (kg h0 al b) (qsy n h b o v own (yl h b))
 |_,_=>none
@[go_sem] theorem jwq {n b o:Nat}{own:Option Nat}{v:qa}:q3m h0 al n h own (some (.ptr b o)) (some v)=ifR (kg h0 al b) (qsy n h b o v own (yl h b)):=rfl
@[go_sem] theorem j4b {n:Nat}{a x:qf}:j9 p xc h0 al e h (.store n a x)=q3m h0 al n h (kz e x) (zc e a) (zc e x):=by
 simp only[j9,zr,q3m]
 cases zc e a with
 |none=>rfl
 |some va=>
  cases va with
  |ptr b o=>
   cases zc e x with
   |none=>rfl
   |some v=>
    simp only[ifR]
    cases kg h0 al b with
    |false=>rfl
    |true=>
     simp only[cT]
     cases yl h b with
     |none=>rfl
     |some cs=>
      simp only[qsy]
      cases kz e x with
      |none=>
       simp only[ifR,qua,qbv]
       cases Nat.beq v.flat.length n with
       |false=>rfl
       |true=>
        simp only[cT]
        cases qah cs o v.flat with
        |none=>rfl
        |some cs'=>simp only[];cases yv h b (.cells cs')<;>rfl
      |some t=>
       simp only[ifR,q1o]
       cases (Nat.beq n 1&&v.isList&&Nat.blt o cs.length)with
       |false=>rfl
       |true=>simp only[cT];cases yv h b (.cells (cs.set o (v,true)))<;>rfl
  |_=>rfl
@[go_sem] theorem joa {b:Bool}{z:Nat}{xs:List qa}:qa.isList (.list b z xs)=true:=rfl
@[go_sem] theorem jw0 {z:Nat}{f:α→qa}{l:Option (List α)}:qa.isList (sl z f l)=true:=by cases l<;>rfl
def qw6 (b:Bool)(off:Nat)(vs:List qa)(l:Option (List (Nat×List qa))):Option (List (Nat×List qa)):=match b,l with
 |true,some r=>some ((off,vs)::r)
 |_,_=>none
@[go_sem] theorem jot {off:Nat}{vs:List qa}{r:List (Nat×List qa)}:qw6 true off vs (some r)=some ((off,vs)::r):=rfl
def q38 (x:Option qa)(off n:Nat)(l:Option (List (Nat×List qa))):Option (List (Nat×List qa)):=match x with
 |some v=>qw6 (Nat.beq v.flat.length n&&v.flat.all zj) off v.flat l
 |none=>none
@[go_sem] theorem joz {v:qa}{off n:Nat}{l:Option (List (Nat×List qa))}:q38 (some v) off n l=qw6 (Nat.beq v.flat.length n&&v.flat.all zj) off v.flat l:=rfl
@[go_sem] theorem ji7:qa2 e []=some []:=rfl
@[go_sem] theorem jhd {off n:Nat}{x:qf}{l:List (Nat×Nat×qf)}:qa2 e ((off,n,x)::l)=q38 (zc e x) off n (qa2 e l):=by
 simp only[qa2,q38,qw6]
 cases zc e x with
 |none=>rfl
 |some v=>simp only[];cases (Nat.beq v.flat.length n&&v.flat.all zj)<;>cases qa2 e l<;>rfl
def fillR (h:zd)(zero:List qa)(ps:Option (List (Nat×List qa))):Option qm:=match ps with
 |some ps=>fillS h (qcq zero ps)
 |none=>none
where fillS (h:zd) (r:Option (List qa)):Option qm:=match r with
 |some cs=>some ⟨.agg cs,false,none,h⟩
 |none=>none
@[go_sem] theorem jr5 {zero:List qa}{ps:List (Nat×List qa)}:fillR h zero (some ps)=fillR.fillS h (qcq zero ps):=rfl
@[go_sem] theorem jtj {cs:List qa}:fillR.fillS h (some cs)=some ⟨.agg cs,false,none,h⟩:=rfl
@[go_sem] theorem j4u {zero:List qa}{ps:List (Nat×Nat×qf)}:j9 p xc h0 al e h (.build zero ps)=fillR h zero (qa2 e ps):=by
 simp only[j9,zn,fillR,fillR.fillS]
 cases qa2 e ps with
 |none=>rfl
 |some ps=>simp only[];cases qcq zero ps<;>rfl
@[go_sem] theorem jyc {cs:List qa}:qcq cs []=some cs:=rfl
def q87 (b:Bool)(cs:List qa)(off:Nat)(vs:List qa)(l:List (Nat×List qa)):Option (List qa):=match b with
 |true=>qcq (cs.take off++vs++cs.drop (off+vs.length)) l
 |false=>none
@[go_sem] theorem jpt {cs:List qa}{off:Nat}{vs:List qa}{l:List (Nat×List qa)}:q87 true cs off vs l=qcq (cs.take off++vs++cs.drop (off+vs.length)) l:=rfl
@[go_sem] theorem jvz {cs:List qa}{off:Nat}{vs:List qa}{l:List (Nat×List qa)}:qcq cs ((off,vs)::l)=q87 (decide (off+vs.length≤cs.length)) cs off vs l:=by
 simp only[qcq,q87,qbx]
 cases decide (off+vs.length≤cs.length)<;>rfl
def elemsO (x:Option qa)(i sz:Nat)(l:Option (List (Nat×qa))):Option (List (Nat×qa)):=match x with
 |some v=>elemsC (Nat.beq v.flat.length sz&&v.flat.all zj) i v l
 |none=>none
where elemsC (b:Bool) (i:Nat) (v:qa) (l:Option (List (Nat×qa))):Option (List (Nat×qa)):=match b,l with
 |true,some r=>some ((i,v)::r)
 |_,_=>none
@[go_sem] theorem jo2 {v:qa}{i sz:Nat}{l:Option (List (Nat×qa))}:elemsO (some v) i sz l=elemsO.elemsC (Nat.beq v.flat.length sz&&v.flat.all zj) i v l:=rfl
@[go_sem] theorem jou {v:qa}{i:Nat}{r:List (Nat×qa)}:elemsO.elemsC true i v (some r)=some ((i,v)::r):=rfl
@[go_sem] theorem jiz {sz:Nat}:qaw e sz []=some []:=rfl
@[go_sem] theorem jii {sz i:Nat}{x:qf}{l:List (Nat×qf)}:qaw e sz ((i,x)::l)=elemsO (zc e x) i sz (qaw e sz l):=by
 simp only[qaw,elemsO,elemsO.elemsC]
 cases zc e x with
 |none=>rfl
 |some v=>simp only[];cases (Nat.beq v.flat.length sz&&v.flat.all zj)<;>cases qaw e sz l<;>rfl
@[go_sem] theorem jyf {xs:List qa}:qes xs []=some xs:=rfl
def q4j (b:Bool)(xs:List qa)(i:Nat)(v:qa)(l:List (Nat×qa)):Option (List qa):=match b with
 |true=>qes (xs.set i v) l
 |false=>none
@[go_sem] theorem joj {xs:List qa}{i:Nat}{v:qa}{l:List (Nat×qa)}:q4j true xs i v l=qes (xs.set i v) l:=rfl
@[go_sem] theorem jtm {xs:List qa}{i:Nat}{v:qa}{l:List (Nat×qa)}:qes xs ((i,v)::l)=q4j (decide (i<xs.length)) xs i v l:=by
 simp only[qes,q4j,qdb]
 cases decide (i<xs.length)<;>rfl
def sliceR (sz:Nat)(h:zd)(xs:List qa)(ps:Option (List (Nat×qa))):Option qm:=match ps with
 |some ps=>sliceS sz h (qes xs ps)
 |none=>none
where sliceS (sz:Nat) (h:zd) (r:Option (List qa)):Option qm:=match r with
 |some xs=>some ⟨.list false sz xs,true,none,h⟩
 |none=>none
@[go_sem] theorem jom {sz:Nat}{xs:List qa}{ps:List (Nat×qa)}:sliceR sz h xs (some ps)=sliceR.sliceS sz h (qes xs ps):=rfl
@[go_sem] theorem jpe {sz:Nat}{xs:List qa}:sliceR.sliceS sz h (some xs)=some ⟨.list false sz xs,true,none,h⟩:=rfl
@[go_sem] theorem jj6 {sz len:Nat}{zero:List qa}{ps:List (Nat×qf)}:j9 p xc h0 al e h (.buildSlice sz len zero ps)=sliceR sz h (List.replicate len (bif Nat.beq sz 1 then zero.headD .undef else .agg zero)) (qaw e sz ps):=by
 simp only[j9,zn,sliceR,sliceR.sliceS]
 cases qaw e sz ps with
 |none=>rfl
 |some ps=>simp only[];cases qes (List.replicate len (bif Nat.beq sz 1 then zero.headD .undef else .agg zero)) ps<;>rfl
def appR (sz bytes:Nat)(h:zd)(own:Option Nat)(x y:Option qa):Option qm:=match x,y with
 |some (.list n sz' xs),some vy=>ifR (n||own.isSome) (appS sz bytes h own n sz' xs (qax sz vy))
 |_,_=>none
where appS (sz bytes:Nat) (h:zd) (own:Option Nat) (n:Bool) (sz':Nat) (xs:List qa) (ys:Option (List qa)):Option qm:=match ys with
 |some ys=>ifR ((Nat.beq sz sz'||(xs.isEmpty&&n))&&Nat.ble (xs.length+ys.length) 1073741824&&Nat.ble bytes 4096&&Nat.blt 0 sz) (some ⟨qhe n sz xs ys,true,own,h⟩)
 |none=>none
@[go_sem] theorem jxm {sz bytes:Nat}{own:Option Nat}{n:Bool}{sz':Nat}{xs:List qa}{vy:qa}:appR sz bytes h own (some (.list n sz' xs)) (some vy)=ifR (n||own.isSome) (appR.appS sz bytes h own n sz' xs (qax sz vy)):=rfl
@[go_sem] theorem jye {sz bytes:Nat}{own:Option Nat}{n:Bool}{sz':Nat}{xs ys:List qa}:appR.appS sz bytes h own n sz' xs (some ys)=ifR ((Nat.beq sz sz'||(xs.isEmpty&&n))&&Nat.ble (xs.length+ys.length) 1073741824&&Nat.ble bytes 4096&&Nat.blt 0 sz) (some ⟨qhe n sz xs ys,true,own,h⟩):=rfl
@[go_sem] theorem jy8 {sz bytes:Nat}{x y:qf}:j9 p xc h0 al e h (.append none sz bytes x y)=appR sz bytes h (kz e x) (zc e x) (zc e y):=by
 simp only[j9,zn,appR,appR.appS]
 cases zc e x with
 |none=>rfl
 |some vx=>
  cases vx with
  |list n sz' xs=>
   cases zc e y with
   |none=>rfl
   |some vy=>
    simp only[ifR]
    cases (n||(kz e x).isSome)with
    |false=>rfl
    |true=>
     simp only[cT]
     cases qax sz vy with
     |none=>rfl
     |some ys=>simp only[];cases ((Nat.beq sz sz'||(xs.isEmpty&&n))&&Nat.ble (xs.length+ys.length) 1073741824&&Nat.ble bytes 4096&&Nat.blt 0 sz)<;>rfl
  |_=>cases zc e y<;>rfl
@[go_sem] theorem q97 {z:Nat}{f:α→qa}{l:Option (List α)}:qax z (sl z f l)=some ((l.getD []).map f):=by
 cases l<;>simp[qax,sl]
@[go_sem] theorem jze {z:Nat}{b:Bool}{xs:List qa}:qax z (.list b z xs)=some xs:=by simp[qax]
@[go_sem] theorem j4t {z z':Nat}{b:Bool}:qax z (.list b z' [])=some []:=by simp[qax]
@[go_sem] theorem jox {z:Nat}{xs ys:List qa}:qhe false z xs ys=.list false z (xs++ys):=rfl
@[go_sem] theorem jtq {z:Nat}{b:Bool}{xs:List qa}{y:qa}{ys:List qa}:qhe b z xs (y::ys)=.list false z (xs++y::ys):=by cases b<;>rfl
attribute [go_sem] Option.isSome_some Option.isSome_none Bool.or_true Bool.true_or List.isEmpty_nil List.isEmpty_cons Bool.and_false Bool.false_and
def qvx (h:zd)(i:Nat)(x:Option qa):Option qm:=match x with
 |some (.tup vs)=>qb8 h vs[i]?
 |_=>none
@[go_sem] theorem jnd {i:Nat}{vs:List qa}:qvx h i (some (.tup vs))=qb8 h vs[i]?:=rfl
@[go_sem] theorem jx5 {i:Nat}{x:qf}:j9 p xc h0 al e h (.extract x i)=qvx h i (zc e x):=by
 simp only[j9,zn,qvx]
 cases zc e x with
 |none=>rfl
 |some v=>cases v<;>rfl
def un1 (op:UnOp)(h:zd)(x:Option qa):Option qm:=match x with
 |some v=>qb8 h (qm7 op v)
 |none=>none
@[go_sem] theorem jy2 {op:UnOp}{v:qa}:un1 op h (some v)=qb8 h (qm7 op v):=rfl
@[go_sem] theorem j58 {op:UnOp}{x:qf}:j9 p xc h0 al e h (.un op x)=un1 op h (zc e x):=by
 simp only[j9,zn,un1]
 cases zc e x<;>rfl
@[go_sem] theorem j4y {b:Bool}:qm7 .not (.bool b)=some (.bool (!b)):=rfl
@[go_sem] theorem j5g {k:IntKind}{n:Int}:qm7 .neg (.int k n)=some (.int k (za k (0-n))):=rfl
def jcr (neq:Bool)(h:zd)(x y:Option qa):Option qm:=match x,y with
 |some (.bool a),some (.bool b)=>val h (.bool (bif neq then !(a == b)else a == b))
 |_,_=>none
@[go_sem] theorem jww {neq a b:Bool}:jcr neq h (some (.bool a)) (some (.bool b))=some ⟨.bool (bif neq then !(a == b)else a == b),false,none,h⟩:=rfl
@[go_sem] theorem j5m {neq:Bool}{x y:qf}:j9 p xc h0 al e h (.beq neq x y)=jcr neq h (zc e x) (zc e y):=by
 simp only[j9,zn,jcr]
 cases zc e x with
 |none=>rfl
 |some v=>cases v<;>cases zc e y<;>rfl
def qyx (f:Fn)(h:zd)(a b:Option (List qa)):Option qm:=match a,b with
 |some a,some b=>val h (.fn f a b)
 |_,_=>none
@[go_sem] theorem jnz {f:Fn}{a b:List qa}:qyx f h (some a) (some b)=some ⟨.fn f a b,false,none,h⟩:=rfl
@[go_sem] theorem jy1 {f:Fn}{a b:List qf}:j9 p xc h0 al e h (.mkfunc f a b)=qyx f h (qbe e a) (qbe e b):=by
 simp only[j9,zn,qyx]
 cases qbe e a<;>cases qbe e b<;>rfl
def mxR (f:qa→qa→Option qa)(h:zd)(l:Option (List qa)):Option qm:=match l with
 |some (v::vs)=>qb8 h (qev f v vs)
 |_=>none
@[go_sem] theorem j0e {f:qa→qa→Option qa}{v:qa}{vs:List qa}:mxR f h (some (v::vs))=qb8 h (qev f v vs):=rfl
@[go_sem] theorem j59 {l:List qf}:j9 p xc h0 al e h (.mx l)=mxR max2 h (qbe e l):=by
 simp only[j9,zn,mxR]
 cases qbe e l with
 |none=>rfl
 |some vs=>cases vs<;>rfl
@[go_sem] theorem j57 {l:List qf}:j9 p xc h0 al e h (.mn l)=mxR min2 h (qbe e l):=by
 simp only[j9,zn,mxR]
 cases qbe e l with
 |none=>rfl
 |some vs=>cases vs<;>rfl
def q7r (f:qa→qa→Option qa)(x:Option qa)(l:List qa):Option qa:=match x with
 |some z=>qev f z l
 |none=>none
@[go_sem] theorem jst {f:qa→qa→Option qa}{x:qa}{l:List qa}:q7r f (some x) l=qev f x l:=rfl
@[go_sem] theorem jxr {f:qa→qa→Option qa}{x:qa}:qev f x []=some x:=rfl
@[go_sem] theorem jp8 {f:qa→qa→Option qa}{x y:qa}{l:List qa}:qev f x (y::l)=q7r f (f x y) l:=by
 simp only[qev,q7r];rfl
@[go_sem] theorem j05 {k:IntKind}{x y:Int}:max2 (.int k x) (.int k y)=some (.int k (max x y)):=by
 simp only[max2,decide_true,cT]
 congr 2
 by_cases h:y > x
 ·rw[if_pos h];omega
 ·rw[if_neg h];omega
@[go_sem] theorem j1c {k:IntKind}{x y:Int}:min2 (.int k x) (.int k y)=some (.int k (min x y)):=by
 simp only[min2,decide_true,cT]
 congr 2
 by_cases h:y<x
 ·rw[if_pos h];omega
 ·rw[if_neg h];omega
def q4i (k:Nat)(neq:Bool)(h:zd)(x:Option qa):Option qm:=match k,x with
  |0,some (.list n _ _)=>val h (.bool (bif neq then !n else n))
  |0,some (.ms ..)=>val h (.bool neq)
  |1,some .nilptr=>val h (.bool (!neq))
  |1,some (.ptr ..)=>val h (.bool neq)
  |1,some (.vptr ..)=>val h (.bool neq)
  |2,some .nilmap=>val h (.bool (!neq))
  |2,some (.map ..)=>val h (.bool neq)
  |3,some .nilfn=>val h (.bool (!neq))
  |3,some (.fn ..)=>val h (.bool neq)
  |_,_=>none
@[go_sem] theorem j4p {k:Nat}{neq:Bool}{x:qf}:j9 p xc h0 al e h (.nilEq k neq x)=q4i k neq h (zc e x):=rfl
@[go_sem] theorem jp9 {neq n:Bool}{z:Nat}{xs:List qa}:q4i 0 neq h (some (.list n z xs))=some ⟨.bool (bif neq then !n else n),false,none,h⟩:=rfl
@[go_sem] theorem jxq {n:Nat}{k:IntKind}{i:Int}:below n (.int k i)=true:=rfl
@[go_sem] theorem ju3 {n:Nat}{b:Bool}:below n (.bool b)=true:=rfl
@[go_sem] theorem jxa {n:Nat}{s:List UInt8}:below n (.str s)=true:=rfl
@[go_sem] theorem jsy {n:Nat}{b:Bool}{z:Nat}{xs:List qa}:below n (.list b z xs)=yq n xs:=by simp only[below]
@[go_sem] theorem jyy {n:Nat}{xs:List qa}:below n (.agg xs)=yq n xs:=by simp only[below]
@[go_sem] theorem jyu {n:Nat}{xs:List qa}:below n (.tup xs)=yq n xs:=by simp only[below]
@[go_sem] theorem jyo {n b o:Nat}:below n (.ptr b o)=decide (b<n):=by simp only[below,qdb]
@[go_sem] theorem jxo {n b:Nat}:below n (.map b)=decide (b<n):=by simp only[below,qdb]
@[go_sem] theorem j0t {n k:Nat}{a b:List qa}:below n (.fn (.func k) a b)=(yq n a&&yq n b):=by simp only[below]
@[go_sem] theorem jqo {n:Nat}:yq n []=true:=by simp only[yq]
@[go_sem] theorem q4r {n:Nat}{x:qa}{xs:List qa}:yq n (x::xs)=(below n x&&yq n xs):=by simp only[yq]
@[go_sem] theorem jq3 {n:Nat}{i:Int}:below n (zh i)=true:=rfl
@[go_sem] theorem jv9 {n z:Nat}{l:Option (List Int)}:below n (sl z zh l)=true:=qd8 fun _=>rfl
theorem qxc {n:Nat}{f:α→qa}(hf:∀x,below n (f x)=true):∀l:List α,yq n (l.map f)=true
 | []=>rfl
 |x::l=>by rw[List.map_cons,q4r,hf,qxc hf l];rfl
@[go_sem] theorem jov {n:Nat}{l:List Int}:yq n (l.map zh)=true:=qxc (fun _=>rfl) l
@[go_sem] theorem j38 {k:IntKind}{i:Int}:qbn h (.int k i)=some (.int k i):=rfl
@[go_sem] theorem j0j {b:Bool}:qbn h (.bool b)=some (.bool b):=rfl
@[go_sem] theorem j4o {s:List UInt8}:qbn h (.str s)=some (.str s):=rfl
@[go_sem] theorem j2k {b:Bool}{z:Nat}{xs:List qa}:qbn h (.list b z xs)=some (.list b z xs):=rfl
@[go_sem] theorem jkh {z:Nat}{f:α→qa}{l:Option (List α)}:qbn h (sl z f l)=some (sl z f l):=by cases l<;>rfl
@[go_sem] theorem jz3:qby h []=some []:=rfl
@[go_sem] theorem jwu {v:qa}{vs:List qa}:qby h (v::vs)=qgc (qbn h v) (qby h vs):=by
 simp only[qby,qgc]
 cases qbn h v with
 |none=>rfl
 |some x=>cases qby h vs<;>rfl
def q76 (l:Option (List qa)):Option qa:=match l with
 |some xs=>some (.agg xs)
 |none=>none
@[go_sem] theorem jw6 {xs:List qa}:q76 (some xs)=some (.agg xs):=rfl
@[go_sem] theorem j0z {cs:List qa}:freezeR h (.agg cs)=q76 (qby h cs):=by
 simp only[freezeR,q76]
 cases qby h cs<;>rfl
@[go_sem] theorem j1e {k:IntKind}{i:Int}:freezeR h (.int k i)=some (.int k i):=rfl
@[go_sem] theorem jw1 {b:Bool}:freezeR h (.bool b)=some (.bool b):=rfl
@[go_sem] theorem j1d {s:List UInt8}:freezeR h (.str s)=some (.str s):=rfl
@[go_sem] theorem jxn {b:Bool}{z:Nat}{xs:List qa}:freezeR h (.list b z xs)=some (.list b z xs):=rfl
@[go_sem] theorem j4k {z:Nat}{f:α→qa}{l:Option (List α)}:freezeR h (sl z f l)=some (sl z f l):=by cases l<;>rfl
def jd0 (l:Option (List qa)):Option qa:=match l with
 |some xs=>some (.tup xs)
 |none=>none
@[go_sem] theorem jw7 {xs:List qa}:jd0 (some xs)=some (.tup xs):=rfl
@[go_sem] theorem j01 {cs:List qa}:freezeR h (.tup cs)=jd0 (freezeR.freezeT h cs):=by
 simp only[freezeR,jd0]
 cases freezeR.freezeT h cs<;>rfl
@[go_sem] theorem j2x:freezeR.freezeT h []=some []:=rfl
@[go_sem] theorem j1v {cs vs:List qa}:freezeR.freezeT h (.agg cs::vs)=qgc (q76 (qby h cs)) (freezeR.freezeT h vs):=by
 rw[freezeR.freezeT]
 cases qby h cs with
 |none=>rfl
 |some x=>cases freezeR.freezeT h vs<;>rfl
theorem qmp {v:qa}{vs:List qa}(hv:v.isAgg=false):freezeR.freezeT h (v::vs)=qgc (qbn h v) (freezeR.freezeT h vs):=by
 have:∀cs,v≠.agg cs:=fun cs hc=>by rw[hc]at hv;cases hv
 rw[freezeR.freezeT]
 ·cases qbn h v with
  |none=>rfl
  |some x=>cases freezeR.freezeT h vs<;>rfl
 ·exact this
@[go_sem] theorem jzu {k:IntKind}{i:Int}{vs:List qa}:freezeR.freezeT h (.int k i::vs)=qgc (some (.int k i)) (freezeR.freezeT h vs):=qmp rfl
@[go_sem] theorem jyp {b:Bool}{vs:List qa}:freezeR.freezeT h (.bool b::vs)=qgc (some (.bool b)) (freezeR.freezeT h vs):=qmp rfl
@[go_sem] theorem jzg {s:List UInt8}{vs:List qa}:freezeR.freezeT h (.str s::vs)=qgc (some (.str s)) (freezeR.freezeT h vs):=qmp rfl
@[go_sem] theorem jwv {b:Bool}{z:Nat}{xs vs:List qa}:freezeR.freezeT h (.list b z xs::vs)=qgc (some (.list b z xs)) (freezeR.freezeT h vs):=qmp rfl
@[go_sem] theorem j4i {z:Nat}{f:α→qa}{l:Option (List α)}{vs:List qa}:freezeR.freezeT h (sl z f l::vs)=qgc (some (sl z f l)) (freezeR.freezeT h vs):=by
 rw[qmp (by cases l<;>rfl),jkh]
attribute [go_sem] List.contains_cons List.contains_nil
@[go_sem] theorem j4n {a b:Nat}:(a == b)=decide (a=b):=by
 by_cases hab:a=b<;>simp[hab]
def qw5 (agg:Bool)(c:Option (qa×Bool))(vs:Option (List qa)):Option (qa×Bool):=match vs,agg with
 |some vs,true=>some (.agg vs,false)
 |some _,false=>c
 |none,_=>none
@[go_sem] theorem jwz {c:Option (qa×Bool)}{vs:List qa}:qw5 true c (some vs)=some (.agg vs,false):=rfl
@[go_sem] theorem jyk {c:Option (qa×Bool)}{vs:List qa}:qw5 false c (some vs)=c:=rfl
def q1l (agg:Bool)(o n:Nat)(cs:Option (List (qa×Bool))):Option (qa×Bool):=match cs with
 |some cs=>qw5 agg cs[o]? (qao cs o n)
 |none=>none
@[go_sem] theorem jth {agg:Bool}{o n:Nat}{cs:List (qa×Bool)}:q1l agg o n (some cs)=qw5 agg cs[o]? (qao cs o n):=rfl
def q8w (agg:Bool)(n:Nat)(h:zd)(x:Option (qa×Bool)):Option (qa×Bool):=match x with
 |some (.ptr b o,_)=>q1l agg o n (yl h b)
 |_=>none
@[go_sem] theorem jx6 {agg:Bool}{n b o:Nat}{w:Bool}:q8w agg n h (some (.ptr b o,w))=q1l agg o n (yl h b):=rfl
@[go_sem] theorem jja {t n:Nat}{agg:Bool}:qdm ⟨e,h⟩ (.cell t agg n)=q8w agg n h (look t e):=by
 simp only[qdm,q8w]
 cases look t e with
 |none=>rfl
 |some x=>
  obtain⟨v,w⟩:=x
  cases v with
  |ptr b o=>
   simp only[q1l]
   cases yl h b with
   |none=>rfl
   |some cs=>
    simp only[qw5]
    cases qao cs o n with
    |none=>rfl
    |some vs=>cases agg with
     |true=>rfl
     |false=>simp only[cF];cases cs[o]?<;>rfl
  |_=>rfl
theorem qd7 {k:Nat}{args:List qa}{v v':qa}{o:Bool}(hp:p.prims k=none)(hc:yk p xc k args []=some (v,o,h))(hz:freezeR h v=some v')(hv:below 0 v'=true):j7 p xc k args=some (v',o&&v.isList):=by
 unfold j7
 rw[hp]
 simp only[hc,hz,qet,hv,cT]
end
end Go.Abs
