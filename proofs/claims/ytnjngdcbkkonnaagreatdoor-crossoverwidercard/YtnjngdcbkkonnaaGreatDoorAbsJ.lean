/- Equations of the executor, second part. -/
import Derived.Test.YtnjngdcbkkonnaaGreatDoorAbsI
set_option linter.unusedVariables false
set_option linter.unusedSimpArgs false
namespace Go.Abs
section
variable {p:qo}{xc:XC}{h0:Nat}{al:Option (List Nat)}{e:Env}{h:ze}{α:Type}
attribute [go_sem] List.getElem?_cons_zero List.getElem?_cons_succ List.getElem?_nil List.set_cons_zero List.set_cons_succ List.set_nil List.cons_append List.replicate_zero List.replicate_succ List.map_cons List.map_nil List.all_cons List.all_nil List.drop_zero List.drop_succ_cons List.take_zero List.take_succ_cons List.drop_nil List.take_nil Bool.and_true Bool.true_and Bool.or_false Bool.false_or Bool.and_self List.headD_cons List.foldl_cons List.foldl_nil List.flatMap_cons List.flatMap_nil
@[go_sem] theorem j5z {k:IntKind}{n:Int}:zh (.int k n)=true:=rfl
@[go_sem] theorem j48 {b:Bool}:zh (.bool b)=true:=rfl
@[go_sem] theorem j5k {s:List UInt8}:zh (.str s)=true:=rfl
@[go_sem] theorem j42 {b:Bool}{z:Nat}{xs:List qa}:zh (.list b z xs)=true:=rfl
@[go_sem] theorem j6b {b o n:Nat}:zh (.ms b o n)=true:=rfl
@[go_sem] theorem j5o {b o:Nat}:zh (.ptr b o)=true:=rfl
@[go_sem] theorem j5f {b:Nat}:zh (.map b)=true:=rfl
@[go_sem] theorem jyj:zh .nilptr=true:=rfl
@[go_sem] theorem jy3:zh .nilmap=true:=rfl
@[go_sem] theorem j4j:zh .nilfn=true:=rfl
@[go_sem] theorem j51 {f:Fn}{a b:List qa}:zh (.fn f a b)=true:=rfl
@[go_sem] theorem j6i {z:Nat}{f:α→qa}{l:Option (List α)}:zh (sl z f l)=true:=by cases l<;>rfl
@[go_sem] theorem j0r {cs:List qa}:qa.flat (.agg cs)=cs:=rfl
@[go_sem] theorem j0w {k:IntKind}{n:Int}:qa.flat (.int k n)=[.int k n]:=rfl
@[go_sem] theorem jxm {b:Bool}:qa.flat (.bool b)=[.bool b]:=rfl
@[go_sem] theorem j08 {s:List UInt8}:qa.flat (.str s)=[.str s]:=rfl
@[go_sem] theorem jxy {b:Bool}{z:Nat}{xs:List qa}:qa.flat (.list b z xs)=[.list b z xs]:=rfl
@[go_sem] theorem j4t {z:Nat}{f:α→qa}{l:Option (List α)}:qa.flat (sl z f l)=[sl z f l]:=by cases l<;>rfl
@[go_sem] theorem j00 {b o:Nat}:qa.flat (.ptr b o)=[.ptr b o]:=rfl
@[go_sem] theorem j2h {b:Nat}:qa.flat (.map b)=[.map b]:=rfl
@[go_sem] theorem j4u {f:Fn}{a b:List qa}:qa.flat (.fn f a b)=[.fn f a b]:=rfl
@[go_sem] theorem j44 {b o n:Nat}:qa.flat (.ms b o n)=[.ms b o n]:=rfl
@[go_sem] theorem qle {a b:Nat}:Nat.beq a b=decide (a=b):=by
 cases h:Nat.beq a b with
 |true=>have:=Nat.eq_of_beq_eq_true h;simp[this]
 |false=>
  have:a≠b:=fun hh=>by subst hh;simp at h
  simp[this]
@[go_sem] theorem qb0 {a b:Nat}:Nat.ble a b=decide (a≤b):=by
 cases h:Nat.ble a b with
 |true=>have:=Nat.le_of_ble_eq_true h;simp[this]
 |false=>
  have:¬a≤b:=fun hh=>by rw[Nat.ble_eq_true_of_le hh]at h;cases h
  simp[this]
@[go_sem] theorem qdj {a b:Nat}:Nat.blt a b=decide (a<b):=by
 show Nat.ble (a+1) b=_
 rw[qb0];rfl
@[go_sem] theorem jy4 {b:Nat}:kf h0 none b=true:=rfl
@[go_sem] theorem j4p:exl []=false:=rfl
@[go_sem] theorem j2s {k:Nat}{l:List Nat}:exl (k::l)=decide (1000≤k):=by simp only[exl,qb0]
@[go_sem] theorem j2b {k b:Nat}{l:List Nat}:exq h0 (k::l) b=cond (decide (k<2000)) (decide (b=k-1000)&&decide (b<h0)) (decide (b=h0+(k-2000))):=by
 have e:∀x y:Nat,Nat.beq x y=decide (x=y):=fun x y=>by
  cases h:Nat.beq x y with
  |true=>rw[Nat.eq_of_beq_eq_true h];simp
  |false=>
   have:x≠y:=fun e=>by rw[e,Nat.beq_refl]at h;cases h
   simp[this]
 simp only[exq,qdj,e]
@[go_sem] theorem jvw {b:Nat}{l:List Nat}:kf h0 (some l) b=cond (exl l) (exq h0 l b) (decide (b<h0)||l.contains (b-h0)):=by simp only[kf,qdj]
def qbx (r:Option ze)(v:qa):Option qn:=match r with
 |some h'=>some ⟨v,false,none,h'⟩
 |none=>none
@[go_sem] theorem jx4 {v:qa}:qbx (some h) v=some ⟨v,false,none,h⟩:=rfl
@[go_sem] theorem jyl {h0 r:Nat}{es:List (qa×qa)}:jac h0 r h true (some es)=qbx (newBox h0 h r (.map es)) (.map (h0+r)):=rfl
def jfx (n:Nat)(h:ze)(b:Option qq)(x:qq):Option ze:=match b with
 |some .hole=>some (h.set n x)
 |_=>none
@[go_sem] theorem jx2 {n:Nat}{x:qq}:jfx n h (some .hole) x=some (h.set n x):=rfl
@[go_sem] theorem jxp {r:Nat}{x:qq}:newBox h0 h r x=jfx (h0+r) h h[h0+r]? x:=by
 unfold newBox jfx;rfl
def ifR (b:Bool)(r:Option qn):Option qn:=match b with
 |true=>r
 |false=>none
@[go_sem] theorem j3k {r:Option qn}:ifR true r=r:=rfl
@[go_sem] theorem j4o {r:Nat}{z:List qa}:j8 p xc h0 al e h (.alloc r z)=ifR (z.all zh) (qbx (newBox h0 h r (.cells (cellsOf z))) (.ptr (h0+r) 0)):=by
 simp only[j8,zp,ifR]
 cases z.all zh with
 |false=>rfl
 |true=>simp only[cT,qbx];cases newBox h0 h r (.cells (cellsOf z))<;>rfl
def jad (n:Nat)(h:ze)(x:Option qa):Option qn:=match x with
 |some v=>ifR (Nat.beq v.flat.length n&&v.flat.all zh) (some ⟨.vptr v,false,none,h⟩)
 |none=>none
@[go_sem] theorem jt7 {n:Nat}{v:qa}:jad n h (some v)=ifR (Nat.beq v.flat.length n&&v.flat.all zh) (some ⟨.vptr v,false,none,h⟩):=rfl
@[go_sem] theorem j5c {n:Nat}{x:qf}:j8 p xc h0 al e h (.vbox n x)=jad n h (zf e x):=by
 simp only[j8,zj,jad]
 cases zf e x with
 |none=>rfl
 |some v=>
  simp only[ifR]
  cases (Nat.beq v.flat.length n&&v.flat.all zh)<;>rfl
def jfr (h0 r n:Nat)(h:ze)(x:Option qa):Option qn:=match x with
 |some v=>ifR (Nat.beq v.flat.length n&&v.flat.all zh) (qbx (newBox h0 h r (.cells (cellsOf v.flat))) (.ptr (h0+r) 0))
 |none=>none
@[go_sem] theorem jxj {r n:Nat}{v:qa}:jfr h0 r n h (some v)=ifR (Nat.beq v.flat.length n&&v.flat.all zh) (qbx (newBox h0 h r (.cells (cellsOf v.flat))) (.ptr (h0+r) 0)):=rfl
@[go_sem] theorem j6n {r n:Nat}{x:qf}:j8 p xc h0 al e h (.box r n x)=jfr h0 r n h (zf e x):=by
 simp only[j8,zp,jfr]
 cases zf e x with
 |none=>rfl
 |some v=>
  simp only[ifR,qbx]
  cases (Nat.beq v.flat.length n&&v.flat.all zh)with
  |false=>rfl
  |true=>simp only[cT];cases newBox h0 h r (.cells (cellsOf v.flat))<;>rfl
@[go_sem] theorem jix {r:Nat}:j8 p xc h0 al e h (.mkmap r)=qbx (newBox h0 h r (.map [])) (.map (h0+r)):=by
 simp only[j8,zp,qbx]
 cases newBox h0 h r (.map [])<;>rfl
@[go_sem] theorem jqj:cellsOf []=[]:=rfl
@[go_sem] theorem jmn {v:qa}{vs:List qa}:cellsOf (v::vs)=(v,false)::cellsOf vs:=rfl
def qg2 (agg:Bool)(h:ze)(r:Option qa):Option qn:=match r with
 |some v=>bif Bool.xor agg v.isAgg then none else val h (.vptr v)
 |none=>none
def qhd (agg:Bool)(off n:Nat)(h:ze)(x:Option qa):Option qn:=match x with
 |some (.ptr b o)=>val h (.ptr b (o+off))
 |some (.vptr (.agg cs))=>qg2 agg h (part agg cs off n)
 |_=>none
@[go_sem] theorem jli {agg:Bool}{off n b o:Nat}:qhd agg off n h (some (.ptr b o))=some ⟨.ptr b (o+off),false,none,h⟩:=rfl
@[go_sem] theorem jjj {agg:Bool}{off n:Nat}{cs:List qa}:qhd agg off n h (some (.vptr (.agg cs)))=qg2 agg h (part agg cs off n):=rfl
@[go_sem] theorem jqa {agg:Bool}{off n:Nat}{x:qf}:j8 p xc h0 al e h (.fieldAddr agg off n x)=qhd agg off n h (zf e x):=by
 simp only[j8,zj,qhd]
 cases zf e x with
 |none=>rfl
 |some v=>cases v with
  |vptr v=>cases v<;>rfl
  |_=>rfl
def j5g (v:qa):Prop:=v.isAgg=false
theorem jyp {v:qa}(hv:v.isAgg=false):qg2 false h (some v)=some ⟨.vptr v,false,none,h⟩:=by simp[qg2,hv,val]
@[go_sem] theorem jyd {k:IntKind}{n:Int}:qg2 false h (some (.int k n))=some ⟨.vptr (.int k n),false,none,h⟩:=rfl
@[go_sem] theorem jyx {s:List UInt8}:qg2 false h (some (.str s))=some ⟨.vptr (.str s),false,none,h⟩:=rfl
@[go_sem] theorem jrv {b:Bool}:qg2 false h (some (.bool b))=some ⟨.vptr (.bool b),false,none,h⟩:=rfl
@[go_sem] theorem j3v {z:Nat}{f:α→qa}{l:Option (List α)}:qg2 false h (some (sl z f l))=some ⟨.vptr (sl z f l),false,none,h⟩:=by cases l<;>rfl
@[go_sem] theorem jyf {cs:List qa}:qg2 true h (some (.agg cs))=some ⟨.vptr (.agg cs),false,none,h⟩:=rfl
@[go_sem] theorem j2y {cs:List qa}{off n:Nat}:part false cs off n=cs[off]?:=rfl
def q99 (b:Bool)(cs:List qa)(off n:Nat):Option qa:=match b with
 |true=>some (.agg ((cs.drop off).take n))
 |false=>none
@[go_sem] theorem jsn {cs:List qa}{off n:Nat}:q99 true cs off n=some (.agg ((cs.drop off).take n)):=rfl
@[go_sem] theorem j0c {cs:List qa}{off n:Nat}:part true cs off n=q99 (decide (off+n≤cs.length)) cs off n:=by
 simp only[part,q99,cT,qb0]
 cases decide (off+n≤cs.length)<;>rfl
@[go_sem] theorem jz6 {z:Nat}{f:α→qa}{l:Option (List α)}:qc0 h0 al false 1 h (some (.vptr (sl z f l)))=some ⟨sl z f l,false,none,h⟩:=by cases l<;>rfl
def je4 (h:ze)(cs:List qa)(b:Bool):Option qn:=match b with
 |true=>some ⟨.agg cs,false,none,h⟩
 |false=>none
@[go_sem] theorem jyv {cs:List qa}:je4 h cs true=some ⟨.agg cs,false,none,h⟩:=rfl
@[go_sem] theorem jvi {n:Nat}{cs:List qa}:qc0 h0 al true n h (some (.vptr (.agg cs)))=je4 h cs (decide (cs.length=n)):=by
 unfold je4
 by_cases hn:cs.length=n
 ·rw[jdk hn];simp[hn]
 ·simp[qc0,qa.isAgg,qa.flat,hn,qle]
def q5a (agg:Bool)(h:ze)(vs:Option (List qa)):Option qn:=match vs with
 |some vs=>bif agg then val h (.agg vs)else(match vs with
  | [v]=>val h v
  |_=>none)
 |none=>none
@[go_sem] theorem j34 {vs:List qa}:q5a true h (some vs)=some ⟨.agg vs,false,none,h⟩:=rfl
@[go_sem] theorem j0q {v:qa}:q5a false h (some [v])=some ⟨v,false,none,h⟩:=rfl
def q2i (b:Option qq):Option (List (qa×Bool)):=match b with
 |some (.cells cs)=>some cs
 |_=>none
@[go_sem] theorem jqg {cs:List (qa×Bool)}:q2i (some (.cells cs))=some cs:=rfl
@[go_sem] theorem jqn {b:Nat}:yi h b=q2i h[b]?:=by unfold yi q2i;rfl
def ldC (b:Bool)(cs:List (qa×Bool))(off n:Nat):Option (List qa):=match b with
 |true=>some (((cs.drop off).take n).map (·.1))
 |false=>none
@[go_sem] theorem jf0 {cs:List (qa×Bool)}{off n:Nat}:ldC true cs off n=some (((cs.drop off).take n).map (·.1)):=rfl
@[go_sem] theorem q4r {cs:List (qa×Bool)}{off n:Nat}:qam cs off n=ldC (decide (off+n≤cs.length)) cs off n:=by
 simp only[qam,ldC,qb0]
 cases decide (off+n≤cs.length)<;>rfl
def jgu (agg:Bool)(o n:Nat)(h:ze)(cs:Option (List (qa×Bool))):Option qn:=match cs with
 |some cs=>q5a agg h (qam cs o n)
 |none=>none
@[go_sem] theorem jy2 {agg:Bool}{o n:Nat}{cs:List (qa×Bool)}:jgu agg o n h (some cs)=q5a agg h (qam cs o n):=rfl
@[go_sem] theorem jzo {agg:Bool}{n b o:Nat}:qc0 h0 al agg n h (some (.ptr b o))=ifR (kf h0 al b) (jgu agg o n h (yi h b)):=by
 simp only[qc0,ifR,jgu,q5a]
 cases kf h0 al b with
 |false=>rfl
 |true=>
  simp only[cT]
  cases yi h b with
  |none=>rfl
  |some cs=>simp only[];cases qam cs o n<;>rfl
def q2a (r:Option ze)(v:qa)(w:Bool):Option qn:=match r with
 |some h'=>some ⟨v,w,none,h'⟩
 |none=>none
@[go_sem] theorem jrp {v:qa}{w:Bool}:q2a (some h) v w=some ⟨v,w,none,h⟩:=rfl
def q15 (h:ze)(b o:Nat)(cs:List (qa×Bool))(x:Option (qa×Bool)):Option qn:=match x with
 |some (v,w)=>q2a (yu h b (.cells (cs.set o (v,false)))) v w
 |none=>none
@[go_sem] theorem jrx {b o:Nat}{cs:List (qa×Bool)}{v:qa}{w:Bool}:q15 h b o cs (some (v,w))=q2a (yu h b (.cells (cs.set o (v,false)))) v w:=rfl
def q19 (h:ze)(b o:Nat)(cs:Option (List (qa×Bool))):Option qn:=match cs with
 |some cs=>q15 h b o cs cs[o]?
 |none=>none
@[go_sem] theorem jvb {b o:Nat}{cs:List (qa×Bool)}:q19 h b o (some cs)=q15 h b o cs cs[o]?:=rfl
def qsd (h0:Nat)(al:Option (List Nat))(off:Option Nat)(h:ze)(x:Option qa):Option qn:=match x with
 |some (.ptr b o)=>ifR (kf h0 al b&&qit off o) (q19 h b o (yi h b))
 |_=>none
@[go_sem] theorem jla {off:Option Nat}{b o:Nat}:qsd h0 al off h (some (.ptr b o))=ifR (kf h0 al b&&qit off o) (q19 h b o (yi h b)):=rfl
@[go_sem] theorem jtj {o:Nat}:qit none o=true:=rfl
@[go_sem] theorem jtr {a o:Nat}:qit (some a) o=decide (a=o):=by simp only[qit,qle]
@[go_sem] theorem juo {off:Option Nat}{x:qf}:j8 p xc h0 al e h (.loadTake off x)=qsd h0 al off h (zf e x):=by
 simp only[j8,zp,qsd]
 cases zf e x with
 |none=>rfl
 |some v=>cases v with
  |ptr b o=>
   simp only[ifR,q19,q15,q2a]
   cases (kf h0 al b&&qit off o)with
   |false=>rfl
   |true=>
    simp only[cT]
    cases yi h b with
    |none=>rfl
    |some cs=>
     simp only[]
     cases cs[o]? with
     |none=>rfl
     |some c=>
      obtain⟨v,w⟩:=c
      simp only[]
      cases yu h b (.cells (cs.set o (v,false)))<;>rfl
  |_=>rfl
def jg1 (b:Bool)(n:Nat)(x:qq)(h:ze):Option ze:=match b with
 |true=>some (h.set n x)
 |false=>none
@[go_sem] theorem jx7 {n:Nat}{x:qq}:jg1 true n x h=some (h.set n x):=rfl
@[go_sem] theorem jxl {b:Nat}{x:qq}:yu h b x=jg1 (decide (b<h.length)) b x h:=by
 simp only[yu,jg1,qdj]
 cases decide (b<h.length)<;>rfl
def stC (b:Bool)(cs:List (qa×Bool))(off:Nat)(vs:List qa):Option (List (qa×Bool)):=match b with
 |true=>some (cs.take off++vs.map (·,false)++cs.drop (off+vs.length))
 |false=>none
@[go_sem] theorem q3z {cs:List (qa×Bool)}{off:Nat}{vs:List qa}:stC true cs off vs=some (cs.take off++vs.map (·,false)++cs.drop (off+vs.length)):=rfl
@[go_sem] theorem qq6 {cs:List (qa×Bool)}{off:Nat}{vs:List qa}:qab cs off vs=stC (decide (off+vs.length≤cs.length)&&vs.all zh) cs off vs:=by
 simp only[qab,stC,qb0]
 cases (decide (off+vs.length≤cs.length)&&vs.all zh)<;>rfl
def j6r (e:Env)(x:qf):Option Nat:=kw e x
def q84 (t:Nat)(x:Option (qa×Bool)):Option Nat:=match x with
 |some (_,true)=>some t
 |_=>none
@[go_sem] theorem jyw {t:Nat}{v:qa}:q84 t (some (v,true))=some t:=rfl
@[go_sem] theorem jq4 {t:Nat}{v:qa}:q84 t (some (v,false))=none:=rfl
@[go_sem] theorem jxv {t:Nat}:kw e (.tmp t)=q84 t (look t e):=by
 simp only[kw,q84];rfl
@[go_sem] theorem jqk {v:qa}:kw e (.const v)=none:=rfl
def qud (h:ze)(b:Nat)(cs:Option (List (qa×Bool))):Option qn:=match cs with
 |some cs'=>qbx (yu h b (.cells cs')) .undef
 |none=>none
@[go_sem] theorem jlv {b:Nat}{cs:List (qa×Bool)}:qud h b (some cs)=qbx (yu h b (.cells cs)) .undef:=rfl
def q17 (t:Nat)(r:Option ze):Option qn:=match r with
 |some h'=>some ⟨.undef,false,some t,h'⟩
 |none=>none
@[go_sem] theorem ju1 {t:Nat}:q17 t (some h)=some ⟨.undef,false,some t,h⟩:=rfl
def qtb (n:Nat)(h:ze)(b o:Nat)(v:qa)(own:Option Nat)(cs:Option (List (qa×Bool))):Option qn:=match cs,own with
 |some cs,some t=>ifR (Nat.beq n 1&&v.isList&&Nat.blt o cs.length) (q17 t (yu h b (.cells (cs.set o (v,true)))))
 |some cs,none=>ifR (Nat.beq v.flat.length n) (qud h b (qab cs o v.flat))
 |none,_=>none
@[go_sem] theorem jv1 {n b o t:Nat}{v:qa}{cs:List (qa×Bool)}:qtb n h b o v (some t) (some cs)=ifR (Nat.beq n 1&&v.isList&&Nat.blt o cs.length) (q17 t (yu h b (.cells (cs.set o (v,true))))):=rfl
@[go_sem] theorem jlw {n b o:Nat}{v:qa}{cs:List (qa×Bool)}:qtb n h b o v none (some cs)=ifR (Nat.beq v.flat.length n) (qud h b (qab cs o v.flat)):=rfl
def q4c (h0:Nat)(al:Option (List Nat))(n:Nat)(h:ze)(own:Option Nat)(a x:Option qa):Option qn:=match a,x with
 |some (.ptr b o),some v=>ifR (kf h0 al b) (qtb n h b o v own (yi h b))
 |_,_=>none
@[go_sem] theorem jvz {n b o:Nat}{own:Option Nat}{v:qa}:q4c h0 al n h own (some (.ptr b o)) (some v)=ifR (kf h0 al b) (qtb n h b o v own (yi h b)):=rfl
@[go_sem] theorem j47 {n:Nat}{a x:qf}:j8 p xc h0 al e h (.store n a x)=q4c h0 al n h (kw e x) (zf e a) (zf e x):=by
 simp only[j8,zp,q4c]
 cases zf e a with
 |none=>rfl
 |some va=>
  cases va with
  |ptr b o=>
   cases zf e x with
   |none=>rfl
   |some v=>
    simp only[ifR]
    cases kf h0 al b with
    |false=>rfl
    |true=>
     simp only[cT]
     cases yi h b with
     |none=>rfl
     |some cs=>
      simp only[qtb]
      cases kw e x with
      |none=>
       simp only[ifR,qud,qbx]
       cases Nat.beq v.flat.length n with
       |false=>rfl
       |true=>
        simp only[cT]
        cases qab cs o v.flat with
        |none=>rfl
        |some cs'=>simp only[];cases yu h b (.cells cs')<;>rfl
      |some t=>
       simp only[ifR,q17]
       cases (Nat.beq n 1&&v.isList&&Nat.blt o cs.length)with
       |false=>rfl
       |true=>simp only[cT];cases yu h b (.cells (cs.set o (v,true)))<;>rfl
  |_=>rfl
@[go_sem] theorem jqi {b:Bool}{z:Nat}{xs:List qa}:qa.isList (.list b z xs)=true:=rfl
@[go_sem] theorem jyk {z:Nat}{f:α→qa}{l:Option (List α)}:qa.isList (sl z f l)=true:=by cases l<;>rfl
def qxn (b:Bool)(off:Nat)(vs:List qa)(l:Option (List (Nat×List qa))):Option (List (Nat×List qa)):=match b,l with
 |true,some r=>some ((off,vs)::r)
 |_,_=>none
@[go_sem] theorem jqd {off:Nat}{vs:List qa}{r:List (Nat×List qa)}:qxn true off vs (some r)=some ((off,vs)::r):=rfl
def q4h (x:Option qa)(off n:Nat)(l:Option (List (Nat×List qa))):Option (List (Nat×List qa)):=match x with
 |some v=>qxn (Nat.beq v.flat.length n&&v.flat.all zh) off v.flat l
 |none=>none
@[go_sem] theorem jqb {v:qa}{off n:Nat}{l:Option (List (Nat×List qa))}:q4h (some v) off n l=qxn (Nat.beq v.flat.length n&&v.flat.all zh) off v.flat l:=rfl
@[go_sem] theorem jld:qa5 e []=some []:=rfl
@[go_sem] theorem jiw {off n:Nat}{x:qf}{l:List (Nat×Nat×qf)}:qa5 e ((off,n,x)::l)=q4h (zf e x) off n (qa5 e l):=by
 simp only[qa5,q4h,qxn]
 cases zf e x with
 |none=>rfl
 |some v=>simp only[];cases (Nat.beq v.flat.length n&&v.flat.all zh)<;>cases qa5 e l<;>rfl
def fillR (h:ze)(zero:List qa)(ps:Option (List (Nat×List qa))):Option qn:=match ps with
 |some ps=>fillS h (qc2 zero ps)
 |none=>none
where fillS (h:ze) (r:Option (List qa)):Option qn:=match r with
 |some cs=>some ⟨.agg cs,false,none,h⟩
 |none=>none
@[go_sem] theorem jrg {zero:List qa}{ps:List (Nat×List qa)}:fillR h zero (some ps)=fillR.fillS h (qc2 zero ps):=rfl
@[go_sem] theorem jw8 {cs:List qa}:fillR.fillS h (some cs)=some ⟨.agg cs,false,none,h⟩:=rfl
@[go_sem] theorem j4n {zero:List qa}{ps:List (Nat×Nat×qf)}:j8 p xc h0 al e h (.build zero ps)=fillR h zero (qa5 e ps):=by
 simp only[j8,zj,fillR,fillR.fillS]
 cases qa5 e ps with
 |none=>rfl
 |some ps=>simp only[];cases qc2 zero ps<;>rfl
@[go_sem] theorem jzj {cs:List qa}:qc2 cs []=some cs:=rfl
def q96 (b:Bool)(cs:List qa)(off:Nat)(vs:List qa)(l:List (Nat×List qa)):Option (List qa):=match b with
 |true=>qc2 (cs.take off++vs++cs.drop (off+vs.length)) l
 |false=>none
@[go_sem] theorem jq6 {cs:List qa}{off:Nat}{vs:List qa}{l:List (Nat×List qa)}:q96 true cs off vs l=qc2 (cs.take off++vs++cs.drop (off+vs.length)) l:=rfl
@[go_sem] theorem jt4 {cs:List qa}{off:Nat}{vs:List qa}{l:List (Nat×List qa)}:qc2 cs ((off,vs)::l)=q96 (decide (off+vs.length≤cs.length)) cs off vs l:=by
 simp only[qc2,q96,qb0]
 cases decide (off+vs.length≤cs.length)<;>rfl
def elemsO (x:Option qa)(i sz:Nat)(l:Option (List (Nat×qa))):Option (List (Nat×qa)):=match x with
 |some v=>elemsC (Nat.beq v.flat.length sz&&v.flat.all zh) i v l
 |none=>none
where elemsC (b:Bool) (i:Nat) (v:qa) (l:Option (List (Nat×qa))):Option (List (Nat×qa)):=match b,l with
 |true,some r=>some ((i,v)::r)
 |_,_=>none
@[go_sem] theorem jp6 {v:qa}{i sz:Nat}{l:Option (List (Nat×qa))}:elemsO (some v) i sz l=elemsO.elemsC (Nat.beq v.flat.length sz&&v.flat.all zh) i v l:=rfl
@[go_sem] theorem jqc {v:qa}{i:Nat}{r:List (Nat×qa)}:elemsO.elemsC true i v (some r)=some ((i,v)::r):=rfl
@[go_sem] theorem jk6 {sz:Nat}:qaw e sz []=some []:=rfl
@[go_sem] theorem jki {sz i:Nat}{x:qf}{l:List (Nat×qf)}:qaw e sz ((i,x)::l)=elemsO (zf e x) i sz (qaw e sz l):=by
 simp only[qaw,elemsO,elemsO.elemsC]
 cases zf e x with
 |none=>rfl
 |some v=>simp only[];cases (Nat.beq v.flat.length sz&&v.flat.all zh)<;>cases qaw e sz l<;>rfl
@[go_sem] theorem jzn {xs:List qa}:qez xs []=some xs:=rfl
def q2g (b:Bool)(xs:List qa)(i:Nat)(v:qa)(l:List (Nat×qa)):Option (List qa):=match b with
 |true=>qez (xs.set i v) l
 |false=>none
@[go_sem] theorem jp5 {xs:List qa}{i:Nat}{v:qa}{l:List (Nat×qa)}:q2g true xs i v l=qez (xs.set i v) l:=rfl
@[go_sem] theorem jtu {xs:List qa}{i:Nat}{v:qa}{l:List (Nat×qa)}:qez xs ((i,v)::l)=q2g (decide (i<xs.length)) xs i v l:=by
 simp only[qez,q2g,qdj]
 cases decide (i<xs.length)<;>rfl
def sliceR (sz:Nat)(h:ze)(xs:List qa)(ps:Option (List (Nat×qa))):Option qn:=match ps with
 |some ps=>sliceS sz h (qez xs ps)
 |none=>none
where sliceS (sz:Nat) (h:ze) (r:Option (List qa)):Option qn:=match r with
 |some xs=>some ⟨.list false sz xs,true,none,h⟩
 |none=>none
@[go_sem] theorem jqf {sz:Nat}{xs:List qa}{ps:List (Nat×qa)}:sliceR sz h xs (some ps)=sliceR.sliceS sz h (qez xs ps):=rfl
@[go_sem] theorem jp7 {sz:Nat}{xs:List qa}:sliceR.sliceS sz h (some xs)=some ⟨.list false sz xs,true,none,h⟩:=rfl
@[go_sem] theorem joe {sz len:Nat}{zero:List qa}{ps:List (Nat×qf)}:j8 p xc h0 al e h (.buildSlice sz len zero ps)=sliceR sz h (List.replicate len (bif Nat.beq sz 1 then zero.headD .undef else .agg zero)) (qaw e sz ps):=by
 simp only[j8,zj,sliceR,sliceR.sliceS]
 cases qaw e sz ps with
 |none=>rfl
 |some ps=>simp only[];cases qez (List.replicate len (bif Nat.beq sz 1 then zero.headD .undef else .agg zero)) ps<;>rfl
def appR (sz bytes:Nat)(h:ze)(own:Option Nat)(x y:Option qa):Option qn:=match x,y with
 |some (.list n sz' xs),some vy=>ifR (n||own.isSome) (appS sz bytes h own n sz' xs (qay sz vy))
 |_,_=>none
where appS (sz bytes:Nat) (h:ze) (own:Option Nat) (n:Bool) (sz':Nat) (xs:List qa) (ys:Option (List qa)):Option qn:=match ys with
 |some ys=>ifR ((Nat.beq sz sz'||(xs.isEmpty&&n))&&Nat.ble (xs.length+ys.length) 1073741824&&Nat.ble bytes 4096&&Nat.blt 0 sz) (some ⟨qg8 n sz xs ys,true,own,h⟩)
 |none=>none
@[go_sem] theorem jyg {sz bytes:Nat}{own:Option Nat}{n:Bool}{sz':Nat}{xs:List qa}{vy:qa}:appR sz bytes h own (some (.list n sz' xs)) (some vy)=ifR (n||own.isSome) (appR.appS sz bytes h own n sz' xs (qay sz vy)):=rfl
@[go_sem] theorem jzm {sz bytes:Nat}{own:Option Nat}{n:Bool}{sz':Nat}{xs ys:List qa}:appR.appS sz bytes h own n sz' xs (some ys)=ifR ((Nat.beq sz sz'||(xs.isEmpty&&n))&&Nat.ble (xs.length+ys.length) 1073741824&&Nat.ble bytes 4096&&Nat.blt 0 sz) (some ⟨qg8 n sz xs ys,true,own,h⟩):=rfl
@[go_sem] theorem j2o {sz bytes:Nat}{x y:qf}:j8 p xc h0 al e h (.append none sz bytes x y)=appR sz bytes h (kw e x) (zf e x) (zf e y):=by
 simp only[j8,zj,appR,appR.appS]
 cases zf e x with
 |none=>rfl
 |some vx=>
  cases vx with
  |list n sz' xs=>
   cases zf e y with
   |none=>rfl
   |some vy=>
    simp only[ifR]
    cases (n||(kw e x).isSome)with
    |false=>rfl
    |true=>
     simp only[cT]
     cases qay sz vy with
     |none=>rfl
     |some ys=>simp only[];cases ((Nat.beq sz sz'||(xs.isEmpty&&n))&&Nat.ble (xs.length+ys.length) 1073741824&&Nat.ble bytes 4096&&Nat.blt 0 sz)<;>rfl
  |_=>cases zf e y<;>rfl
@[go_sem] theorem jc3 {z:Nat}{f:α→qa}{l:Option (List α)}:qay z (sl z f l)=some ((l.getD []).map f):=by
 cases l<;>simp[qay,sl]
@[go_sem] theorem j2q {z:Nat}{b:Bool}{xs:List qa}:qay z (.list b z xs)=some xs:=by simp[qay]
@[go_sem] theorem j4r {z z':Nat}{b:Bool}:qay z (.list b z' [])=some []:=by simp[qay]
@[go_sem] theorem jqu {z:Nat}{xs ys:List qa}:qg8 false z xs ys=.list false z (xs++ys):=rfl
@[go_sem] theorem jud {z:Nat}{b:Bool}{xs:List qa}{y:qa}{ys:List qa}:qg8 b z xs (y::ys)=.list false z (xs++y::ys):=by cases b<;>rfl
attribute [go_sem] Option.isSome_some Option.isSome_none Bool.or_true Bool.true_or List.isEmpty_nil List.isEmpty_cons Bool.and_false Bool.false_and
def qvr (h:ze)(i:Nat)(x:Option qa):Option qn:=match x with
 |some (.tup vs)=>qcj h vs[i]?
 |_=>none
@[go_sem] theorem jm5 {i:Nat}{vs:List qa}:qvr h i (some (.tup vs))=qcj h vs[i]?:=rfl
@[go_sem] theorem jzl {i:Nat}{x:qf}:j8 p xc h0 al e h (.extract x i)=qvr h i (zf e x):=by
 simp only[j8,zj,qvr]
 cases zf e x with
 |none=>rfl
 |some v=>cases v<;>rfl
def un1 (op:UnOp)(h:ze)(x:Option qa):Option qn:=match x with
 |some v=>qcj h (qm1 op v)
 |none=>none
@[go_sem] theorem j2j {op:UnOp}{v:qa}:un1 op h (some v)=qcj h (qm1 op v):=rfl
@[go_sem] theorem j6q {op:UnOp}{x:qf}:j8 p xc h0 al e h (.un op x)=un1 op h (zf e x):=by
 simp only[j8,zj,un1]
 cases zf e x<;>rfl
@[go_sem] theorem j5p {b:Bool}:qm1 .not (.bool b)=some (.bool (!b)):=rfl
@[go_sem] theorem j5u {k:IntKind}{n:Int}:qm1 .neg (.int k n)=some (.int k (j9 k (0-n))):=rfl
def jfi (neq:Bool)(h:ze)(x y:Option qa):Option qn:=match x,y with
 |some (.bool a),some (.bool b)=>val h (.bool (bif neq then !(a == b)else a == b))
 |_,_=>none
@[go_sem] theorem jyz {neq a b:Bool}:jfi neq h (some (.bool a)) (some (.bool b))=some ⟨.bool (bif neq then !(a == b)else a == b),false,none,h⟩:=rfl
@[go_sem] theorem j6k {neq:Bool}{x y:qf}:j8 p xc h0 al e h (.beq neq x y)=jfi neq h (zf e x) (zf e y):=by
 simp only[j8,zj,jfi]
 cases zf e x with
 |none=>rfl
 |some v=>cases v<;>cases zf e y<;>rfl
def qzj (f:Fn)(h:ze)(a b:Option (List qa)):Option qn:=match a,b with
 |some a,some b=>val h (.fn f a b)
 |_,_=>none
@[go_sem] theorem jnw {f:Fn}{a b:List qa}:qzj f h (some a) (some b)=some ⟨.fn f a b,false,none,h⟩:=rfl
@[go_sem] theorem j3g {f:Fn}{a b:List qf}:j8 p xc h0 al e h (.mkfunc f a b)=qzj f h (qbe e a) (qbe e b):=by
 simp only[j8,zj,qzj]
 cases qbe e a<;>cases qbe e b<;>rfl
def mxR (f:qa→qa→Option qa)(h:ze)(l:Option (List qa)):Option qn:=match l with
 |some (v::vs)=>qcj h (qe1 f v vs)
 |_=>none
@[go_sem] theorem j22 {f:qa→qa→Option qa}{v:qa}{vs:List qa}:mxR f h (some (v::vs))=qcj h (qe1 f v vs):=rfl
@[go_sem] theorem j6o {l:List qf}:j8 p xc h0 al e h (.mx l)=mxR max2 h (qbe e l):=by
 simp only[j8,zj,mxR]
 cases qbe e l with
 |none=>rfl
 |some vs=>cases vs<;>rfl
@[go_sem] theorem j6s {l:List qf}:j8 p xc h0 al e h (.mn l)=mxR min2 h (qbe e l):=by
 simp only[j8,zj,mxR]
 cases qbe e l with
 |none=>rfl
 |some vs=>cases vs<;>rfl
def jai (f:qa→qa→Option qa)(x:Option qa)(l:List qa):Option qa:=match x with
 |some z=>qe1 f z l
 |none=>none
@[go_sem] theorem jwv {f:qa→qa→Option qa}{x:qa}{l:List qa}:jai f (some x) l=qe1 f x l:=rfl
@[go_sem] theorem jze {f:qa→qa→Option qa}{x:qa}:qe1 f x []=some x:=rfl
@[go_sem] theorem ju9 {f:qa→qa→Option qa}{x y:qa}{l:List qa}:qe1 f x (y::l)=jai f (f x y) l:=by
 simp only[qe1,jai];rfl
@[go_sem] theorem j3d {k:IntKind}{x y:Int}:max2 (.int k x) (.int k y)=some (.int k (max x y)):=by
 simp only[max2,decide_true,cT]
 congr 2
 by_cases h:y > x
 ·rw[if_pos h];omega
 ·rw[if_neg h];omega
@[go_sem] theorem jzr {k:IntKind}{x y:Int}:min2 (.int k x) (.int k y)=some (.int k (min x y)):=by
 simp only[min2,decide_true,cT]
 congr 2
 by_cases h:y<x
 ·rw[if_pos h];omega
 ·rw[if_neg h];omega
def q4g (k:Nat)(neq:Bool)(h:ze)(x:Option qa):Option qn:=match k,x with
  |0,some (.list n _ _)=>val h (.bool (bif neq then !n else n))
  |0,some (.ms ..)=>val h (.bool neq)
  |1,some .nilptr=>val h (.bool (!neq))
  |1,some (.ptr ..)=>val h (.bool neq)
  |1,some (.vptr ..)=>val h (.bool neq)
  |2,some .nilmap=>val h (.bool (!neq))
  |2,some (.map ..)=>val h (.bool neq)
  |3,some .nilfn=>val h (.bool (!neq))
  |3,some (.fn ..)=>val h (.bool neq)
  |_,_=>none
@[go_sem] theorem j4z {k:Nat}{neq:Bool}{x:qf}:j8 p xc h0 al e h (.nilEq k neq x)=q4g k neq h (zf e x):=rfl
@[go_sem] theorem jrn {neq n:Bool}{z:Nat}{xs:List qa}:q4g 0 neq h (some (.list n z xs))=some ⟨.bool (bif neq then !n else n),false,none,h⟩:=rfl
@[go_sem] theorem jx1 {n:Nat}{k:IntKind}{i:Int}:below n (.int k i)=true:=rfl
@[go_sem] theorem jsz {n:Nat}{b:Bool}:below n (.bool b)=true:=rfl
@[go_sem] theorem jzq {n:Nat}{s:List UInt8}:below n (.str s)=true:=rfl
@[go_sem] theorem jv7 {n:Nat}{b:Bool}{z:Nat}{xs:List qa}:below n (.list b z xs)=yb n xs:=by simp only[below]
@[go_sem] theorem jxo {n:Nat}{xs:List qa}:below n (.agg xs)=yb n xs:=by simp only[below]
@[go_sem] theorem jyy {n:Nat}{xs:List qa}:below n (.tup xs)=yb n xs:=by simp only[below]
@[go_sem] theorem jy7 {n b o:Nat}:below n (.ptr b o)=decide (b<n):=by simp only[below,qdj]
@[go_sem] theorem jzh {n b:Nat}:below n (.map b)=decide (b<n):=by simp only[below,qdj]
@[go_sem] theorem j3w {n k:Nat}{a b:List qa}:below n (.fn (.func k) a b)=(yb n a&&yb n b):=by simp only[below]
@[go_sem] theorem jxi {n:Nat}:yb n []=true:=by simp only[yb]
@[go_sem] theorem q6c {n:Nat}{x:qa}{xs:List qa}:yb n (x::xs)=(below n x&&yb n xs):=by simp only[yb]
@[go_sem] theorem jw2 {n:Nat}{i:Int}:below n (zg i)=true:=rfl
@[go_sem] theorem jui {n z:Nat}{l:Option (List Int)}:below n (sl z zg l)=true:=qgn fun _=>rfl
theorem qxl {n:Nat}{f:α→qa}(hf:∀x,below n (f x)=true):∀l:List α,yb n (l.map f)=true
 | []=>rfl
 |x::l=>by rw[List.map_cons,q6c,hf,qxl hf l];rfl
@[go_sem] theorem jpr {n:Nat}{l:List Int}:yb n (l.map zg)=true:=qxl (fun _=>rfl) l
@[go_sem] theorem j5a {k:IntKind}{i:Int}:qbm h (.int k i)=some (.int k i):=rfl
@[go_sem] theorem j3b {b:Bool}:qbm h (.bool b)=some (.bool b):=rfl
@[go_sem] theorem j41 {s:List UInt8}:qbm h (.str s)=some (.str s):=rfl
@[go_sem] theorem j2n {b:Bool}{z:Nat}{xs:List qa}:qbm h (.list b z xs)=some (.list b z xs):=rfl
@[go_sem] theorem qo7 {z:Nat}{f:α→qa}{l:Option (List α)}:qbm h (sl z f l)=some (sl z f l):=by cases l<;>rfl
@[go_sem] theorem j1t:qbz h []=some []:=rfl
@[go_sem] theorem jyb {v:qa}{vs:List qa}:qbz h (v::vs)=qgi (qbm h v) (qbz h vs):=by
 simp only[qbz,qgi]
 cases qbm h v with
 |none=>rfl
 |some x=>cases qbz h vs<;>rfl
def q9z (l:Option (List qa)):Option qa:=match l with
 |some xs=>some (.agg xs)
 |none=>none
@[go_sem] theorem jx8 {xs:List qa}:q9z (some xs)=some (.agg xs):=rfl
@[go_sem] theorem j19 {cs:List qa}:freezeR h (.agg cs)=q9z (qbz h cs):=by
 simp only[freezeR,q9z]
 cases qbz h cs<;>rfl
@[go_sem] theorem j3u {k:IntKind}{i:Int}:freezeR h (.int k i)=some (.int k i):=rfl
@[go_sem] theorem jxu {b:Bool}:freezeR h (.bool b)=some (.bool b):=rfl
@[go_sem] theorem j0p {s:List UInt8}:freezeR h (.str s)=some (.str s):=rfl
@[go_sem] theorem jya {b:Bool}{z:Nat}{xs:List qa}:freezeR h (.list b z xs)=some (.list b z xs):=rfl
@[go_sem] theorem j45 {z:Nat}{f:α→qa}{l:Option (List α)}:freezeR h (sl z f l)=some (sl z f l):=by cases l<;>rfl
def jgq (l:Option (List qa)):Option qa:=match l with
 |some xs=>some (.tup xs)
 |none=>none
@[go_sem] theorem jxn {xs:List qa}:jgq (some xs)=some (.tup xs):=rfl
@[go_sem] theorem j20 {cs:List qa}:freezeR h (.tup cs)=jgq (freezeR.freezeT h cs):=by
 simp only[freezeR,jgq]
 cases freezeR.freezeT h cs<;>rfl
@[go_sem] theorem j39:freezeR.freezeT h []=some []:=rfl
@[go_sem] theorem j1d {cs vs:List qa}:freezeR.freezeT h (.agg cs::vs)=qgi (q9z (qbz h cs)) (freezeR.freezeT h vs):=by
 rw[freezeR.freezeT]
 cases qbz h cs with
 |none=>rfl
 |some x=>cases freezeR.freezeT h vs<;>rfl
theorem qlz {v:qa}{vs:List qa}(hv:v.isAgg=false):freezeR.freezeT h (v::vs)=qgi (qbm h v) (freezeR.freezeT h vs):=by
 have:∀cs,v≠.agg cs:=fun cs hc=>by rw[hc]at hv;cases hv
 rw[freezeR.freezeT]
 ·cases qbm h v with
  |none=>rfl
  |some x=>cases freezeR.freezeT h vs<;>rfl
 ·exact this
@[go_sem] theorem j3t {k:IntKind}{i:Int}{vs:List qa}:freezeR.freezeT h (.int k i::vs)=qgi (some (.int k i)) (freezeR.freezeT h vs):=qlz rfl
@[go_sem] theorem jxw {b:Bool}{vs:List qa}:freezeR.freezeT h (.bool b::vs)=qgi (some (.bool b)) (freezeR.freezeT h vs):=qlz rfl
@[go_sem] theorem j02 {s:List UInt8}{vs:List qa}:freezeR.freezeT h (.str s::vs)=qgi (some (.str s)) (freezeR.freezeT h vs):=qlz rfl
@[go_sem] theorem jx6 {b:Bool}{z:Nat}{xs vs:List qa}:freezeR.freezeT h (.list b z xs::vs)=qgi (some (.list b z xs)) (freezeR.freezeT h vs):=qlz rfl
@[go_sem] theorem j4v {z:Nat}{f:α→qa}{l:Option (List α)}{vs:List qa}:freezeR.freezeT h (sl z f l::vs)=qgi (some (sl z f l)) (freezeR.freezeT h vs):=by
 rw[qlz (by cases l<;>rfl),qo7]
attribute [go_sem] List.contains_cons List.contains_nil
@[go_sem] theorem j46 {a b:Nat}:(a == b)=decide (a=b):=by
 by_cases hab:a=b<;>simp[hab]
def qwi (agg:Bool)(c:Option (qa×Bool))(vs:Option (List qa)):Option (qa×Bool):=match vs,agg with
 |some vs,true=>some (.agg vs,false)
 |some _,false=>c
 |none,_=>none
@[go_sem] theorem jxk {c:Option (qa×Bool)}{vs:List qa}:qwi true c (some vs)=some (.agg vs,false):=rfl
@[go_sem] theorem jxq {c:Option (qa×Bool)}{vs:List qa}:qwi false c (some vs)=c:=rfl
def q12 (agg:Bool)(o n:Nat)(cs:Option (List (qa×Bool))):Option (qa×Bool):=match cs with
 |some cs=>qwi agg cs[o]? (qam cs o n)
 |none=>none
@[go_sem] theorem jwb {agg:Bool}{o n:Nat}{cs:List (qa×Bool)}:q12 agg o n (some cs)=qwi agg cs[o]? (qam cs o n):=rfl
def jaj (agg:Bool)(n:Nat)(h:ze)(x:Option (qa×Bool)):Option (qa×Bool):=match x with
 |some (.ptr b o,_)=>q12 agg o n (yi h b)
 |_=>none
@[go_sem] theorem jxx {agg:Bool}{n b o:Nat}{w:Bool}:jaj agg n h (some (.ptr b o,w))=q12 agg o n (yi h b):=rfl
@[go_sem] theorem jk7 {t n:Nat}{agg:Bool}:qdp ⟨e,h⟩ (.cell t agg n)=jaj agg n h (look t e):=by
 simp only[qdp,jaj]
 cases look t e with
 |none=>rfl
 |some x=>
  obtain⟨v,w⟩:=x
  cases v with
  |ptr b o=>
   simp only[q12]
   cases yi h b with
   |none=>rfl
   |some cs=>
    simp only[qwi]
    cases qam cs o n with
    |none=>rfl
    |some vs=>cases agg with
     |true=>rfl
     |false=>simp only[cF];cases cs[o]?<;>rfl
  |_=>rfl
theorem qed {k:Nat}{args:List qa}{v v':qa}{o:Bool}(hp:p.prims k=none)(hc:ye p xc k args []=some (v,o,h))(hz:freezeR h v=some v')(hv:below 0 v'=true):zb p xc k args=some (v',o&&v.isList):=by
 unfold zb
 rw[hp]
 simp only[hc,hz,qdn,hv,cT]
end
end Go.Abs
