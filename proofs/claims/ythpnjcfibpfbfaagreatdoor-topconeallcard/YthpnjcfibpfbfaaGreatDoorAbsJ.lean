/- Equations of the executor, second part. -/
import Derived.Test.YthpnjcfibpfbfaaGreatDoorAbsI
set_option linter.unusedVariables false
set_option linter.unusedSimpArgs false
namespace Go.Abs
section
variable {p:je}{xc:XC}{h0:Nat}{al:Option (List Nat)}{e:Env}{h:qi}{α:Type}
attribute [go_sem] List.getElem?_cons_zero List.getElem?_cons_succ List.getElem?_nil List.set_cons_zero List.set_cons_succ List.set_nil List.cons_append List.replicate_zero List.replicate_succ List.map_cons List.map_nil List.all_cons List.all_nil List.drop_zero List.drop_succ_cons List.take_zero List.take_succ_cons List.drop_nil List.take_nil Bool.and_true Bool.true_and Bool.or_false Bool.false_or Bool.and_self List.headD_cons List.foldl_cons List.foldl_nil List.flatMap_cons List.flatMap_nil
@[go_sem] theorem je0 {k n}:qf (.int k n)=true:=rfl
@[go_sem] theorem jea {b}:qf (.bool b)=true:=rfl
@[go_sem] theorem jek {s}:qf (.str s)=true:=rfl
@[go_sem] theorem jd5 {b z xs}:qf (.list b z xs)=true:=rfl
@[go_sem] theorem jfm {b o n}:qf (.ms b o n)=true:=rfl
@[go_sem] theorem je5 {b o}:qf (.ptr b o)=true:=rfl
@[go_sem] theorem jep {b}:qf (.map b)=true:=rfl
@[go_sem] theorem q9a:qf .nilptr=true:=rfl
@[go_sem] theorem q9i:qf .nilmap=true:=rfl
@[go_sem] theorem jaa:qf .nilfn=true:=rfl
@[go_sem] theorem jfh {f a b}:qf (.fn f a b)=true:=rfl
@[go_sem] theorem jfa {z:Nat}{f:α→AVal}{l}:qf (sl z f l)=true:=by cases l<;>rfl
@[go_sem] theorem jdd {cs}:AVal.flat (.agg cs)=cs:=rfl
@[go_sem] theorem jb9 {k n}:AVal.flat (.int k n)=[.int k n]:=rfl
@[go_sem] theorem q8s {b}:AVal.flat (.bool b)=[.bool b]:=rfl
@[go_sem] theorem jcg {s}:AVal.flat (.str s)=[.str s]:=rfl
@[go_sem] theorem q8i {b z xs}:AVal.flat (.list b z xs)=[.list b z xs]:=rfl
@[go_sem] theorem jdz {z:Nat}{f:α→AVal}{l}:AVal.flat (sl z f l)=[sl z f l]:=by cases l<;>rfl
@[go_sem] theorem q98 {b o}:AVal.flat (.ptr b o)=[.ptr b o]:=rfl
@[go_sem] theorem jbm {b}:AVal.flat (.map b)=[.map b]:=rfl
@[go_sem] theorem jdy {f a b}:AVal.flat (.fn f a b)=[.fn f a b]:=rfl
@[go_sem] theorem jdx {b o n}:AVal.flat (.ms b o n)=[.ms b o n]:=rfl
@[go_sem] theorem qqw {a b}:Nat.beq a b=decide (a=b):=by
 cases h:Nat.beq a b with
 |true=>have:=Nat.eq_of_beq_eq_true h;simp[this]
 |false=>
  have:a≠b:=fun hh=>by subst hh;simp at h
  simp[this]
@[go_sem] theorem qc2 {a b}:Nat.ble a b=decide (a≤b):=by
 cases h:Nat.ble a b with
 |true=>have:=Nat.le_of_ble_eq_true h;simp[this]
 |false=>
  have:¬a≤b:=fun hh=>by rw[Nat.ble_eq_true_of_le hh]at h;cases h
  simp[this]
@[go_sem] theorem qei {a b}:Nat.blt a b=decide (a<b):=by
 show Nat.ble (a+1) b=_
 rw[qc2];rfl
@[go_sem] theorem q8o {b}:jf h0 none b=true:=rfl
@[go_sem] theorem jdu:exl []=false:=rfl
@[go_sem] theorem jcr {k l}:exl (k::l)=decide (1000≤k):=by simp only[exl,qc2]
@[go_sem] theorem jbg {k b l}:exq h0 (k::l) b=cond (decide (k<2000)) (decide (b=k-1000)&&decide (b<h0)) (cond (decide (k<4000)) (decide (b=h0+(k-2000))) (decide (b<h0))):=by
 have e:∀x y:Nat,Nat.beq x y=decide (x=y):=fun x y=>by
  cases h:Nat.beq x y with
  |true=>rw[Nat.eq_of_beq_eq_true h];simp
  |false=>
   have:x≠y:=fun e=>by rw[e,Nat.beq_refl]at h;cases h
   simp[this]
 simp only[exq,qei,e]
@[go_sem] theorem q50 {b l}:jf h0 (some l) b=cond (exl l) (exq h0 l b) (decide (b<h0)||l.contains (b-h0)):=by simp only[jf,qei]
def qba (r:Option qi)(v:AVal):Option ORes:=match r with
 |some h'=>some ⟨v,false,none,h'⟩
 |none=>none
@[go_sem] theorem q88 {v}:qba (some h) v=some ⟨v,false,none,h⟩:=rfl
@[go_sem] theorem q8w {h0 r es}:qs1 h0 r h true (some es)=qba (newBox h0 h r (.map es)) (.map (h0+r)):=rfl
def qwm (n:Nat)(h:qi)(b:Option ABox)(x:ABox):Option qi:=match b with
 |some .hole=>some (h.set n x)
 |_=>none
@[go_sem] theorem q8m {n x}:qwm n h (some .hole) x=some (h.set n x):=rfl
@[go_sem] theorem q9r {r x}:newBox h0 h r x=qwm (h0+r) h h[h0+r]? x:=by
 unfold newBox qwm;rfl
def ifR (b:Bool)(r:Option ORes):Option ORes:=match b with
 |true=>r
 |false=>none
@[go_sem] theorem jc0 {r}:ifR true r=r:=rfl
@[go_sem] theorem jdw {r z}:qb p xc h0 al e h (.alloc r z)=ifR (z.all qf) (qba (newBox h0 h r (.cells (cellsOf z))) (.ptr (h0+r) 0)):=by
 simp only[qb,qj,ifR]
 cases z.all qf with
 |false=>rfl
 |true=>simp only[cond_true,qba];cases newBox h0 h r (.cells (cellsOf z))<;>rfl
def qsp (n:Nat)(h:qi)(x:Option AVal):Option ORes:=match x with
 |some v=>ifR (Nat.beq v.flat.length n&&v.flat.all qf) (some ⟨.vptr v,false,none,h⟩)
 |none=>none
@[go_sem] theorem q7s {n v}:qsp n h (some v)=ifR (Nat.beq v.flat.length n&&v.flat.all qf) (some ⟨.vptr v,false,none,h⟩):=rfl
@[go_sem] theorem jei {n x}:qb p xc h0 al e h (.vbox n x)=qsp n h (qe e x):=by
 simp only[qb,qg,qsp]
 cases qe e x with
 |none=>rfl
 |some v=>
  simp only[ifR]
  cases (Nat.beq v.flat.length n&&v.flat.all qf)<;>rfl
def qwx (h0 r n:Nat)(h:qi)(x:Option AVal):Option ORes:=match x with
 |some v=>ifR (Nat.beq v.flat.length n&&v.flat.all qf) (qba (newBox h0 h r (.cells (cellsOf v.flat))) (.ptr (h0+r) 0))
 |none=>none
@[go_sem] theorem q95 {r n v}:qwx h0 r n h (some v)=ifR (Nat.beq v.flat.length n&&v.flat.all qf) (qba (newBox h0 h r (.cells (cellsOf v.flat))) (.ptr (h0+r) 0)):=rfl
@[go_sem] theorem jff {r n x}:qb p xc h0 al e h (.box r n x)=qwx h0 r n h (qe e x):=by
 simp only[qb,qj,qwx]
 cases qe e x with
 |none=>rfl
 |some v=>
  simp only[ifR,qba]
  cases (Nat.beq v.flat.length n&&v.flat.all qf)with
  |false=>rfl
  |true=>simp only[cond_true];cases newBox h0 h r (.cells (cellsOf v.flat))<;>rfl
@[go_sem] theorem jd3 {r}:qb p xc h0 al e h (.mkmap r)=qba (newBox h0 h r (.map [])) (.map (h0+r)):=by
 simp only[qb,qj,qba]
 cases newBox h0 h r (.map [])<;>rfl
@[go_sem] theorem q2c:cellsOf []=[]:=rfl
@[go_sem] theorem q0g {v vs}:cellsOf (v::vs)=(v,false)::cellsOf vs:=rfl
def qct (agg:Bool)(h:qi)(r:Option AVal):Option ORes:=match r with
 |some v=>bif Bool.xor agg v.isAgg then none else val h (.vptr v)
 |none=>none
def qbl (agg:Bool)(off n:Nat)(h:qi)(x:Option AVal):Option ORes:=match x with
 |some (.ptr b o)=>val h (.ptr b (o+off))
 |some (.vptr (.agg cs))=>qct agg h (part agg cs off n)
 |some (.vel b ver o)=>val h (.vel b ver (o+off))
 |_=>none
@[go_sem] theorem qzc {agg off n b v o}:qbl agg off n h (some (.vel b v o))=some ⟨.vel b v (o+off),false,none,h⟩:=rfl
@[go_sem] theorem qy4 {agg off n b o}:qbl agg off n h (some (.ptr b o))=some ⟨.ptr b (o+off),false,none,h⟩:=rfl
@[go_sem] theorem qxo {agg off n cs}:qbl agg off n h (some (.vptr (.agg cs)))=qct agg h (part agg cs off n):=rfl
@[go_sem] theorem q17 {agg off n x}:qb p xc h0 al e h (.fieldAddr agg off n x)=qbl agg off n h (qe e x):=by
 simp only[qb,qg,qbl]
 cases qe e x with
 |none=>rfl
 |some v=>cases v with
  |vptr v=>cases v<;>rfl
  |_=>rfl
def jez (v:AVal):Prop:=v.isAgg=false
theorem q82 {v}(hv:v.isAgg=false):qct false h (some v)=some ⟨.vptr v,false,none,h⟩:=by simp[qct,hv,val]
@[go_sem] theorem q8n {k n}:qct false h (some (.int k n))=some ⟨.vptr (.int k n),false,none,h⟩:=rfl
@[go_sem] theorem q74 {s}:qct false h (some (.str s))=some ⟨.vptr (.str s),false,none,h⟩:=rfl
@[go_sem] theorem q5x {b}:qct false h (some (.bool b))=some ⟨.vptr (.bool b),false,none,h⟩:=rfl
@[go_sem] theorem jcv {z:Nat}{f:α→AVal}{l}:qct false h (some (sl z f l))=some ⟨.vptr (sl z f l),false,none,h⟩:=by cases l<;>rfl
@[go_sem] theorem q71 {cs}:qct true h (some (.agg cs))=some ⟨.vptr (.agg cs),false,none,h⟩:=rfl
@[go_sem] theorem jc5 {cs off n}:part false cs off n=cs[off]?:=rfl
def qsx (b:Bool)(cs:List AVal)(off n:Nat):Option AVal:=match b with
 |true=>some (.agg ((cs.drop off).take n))
 |false=>none
@[go_sem] theorem q3w {cs off n}:qsx true cs off n=some (.agg ((cs.drop off).take n)):=rfl
@[go_sem] theorem q99 {cs off n}:part true cs off n=qsx (decide (off+n≤cs.length)) cs off n:=by
 simp only[part,qsx,cond_true,qc2]
 cases decide (off+n≤cs.length)<;>rfl
@[go_sem] theorem jaw {z:Nat}{f:α→AVal}{l}:yr h0 al false 1 h (some (.vptr (sl z f l)))=some ⟨sl z f l,false,none,h⟩:=by cases l<;>rfl
def qw1 (h:qi)(cs:List AVal)(b:Bool):Option ORes:=match b with
 |true=>some ⟨.agg cs,false,none,h⟩
 |false=>none
@[go_sem] theorem q80 {cs}:qw1 h cs true=some ⟨.agg cs,false,none,h⟩:=rfl
@[go_sem] theorem q4f {n cs}:yr h0 al true n h (some (.vptr (.agg cs)))=qw1 h cs (decide (cs.length=n)):=by
 unfold qw1
 by_cases hn:cs.length=n
 ·rw[qtb hn];simp[hn]
 ·simp[yr,AVal.isAgg,AVal.flat,hn,qqw]
def qpi (agg:Bool)(h:qi)(vs:Option (List AVal)):Option ORes:=match vs with
 |some vs=>bif agg then val h (.agg vs)else(match vs with
  | [v]=>val h v
  |_=>none)
 |none=>none
@[go_sem] theorem jay {vs}:qpi true h (some vs)=some ⟨.agg vs,false,none,h⟩:=rfl
@[go_sem] theorem jc1 {v}:qpi false h (some [v])=some ⟨v,false,none,h⟩:=rfl
def qpe (b:Option ABox):Option (List (AVal×Bool)):=match b with
 |some (.cells cs)=>some cs
 |_=>none
@[go_sem] theorem q2p {cs}:qpe (some (.cells cs))=some cs:=rfl
@[go_sem] theorem q3f {b}:ja h b=qpe h[b]?:=by unfold ja qpe;rfl
def ldC (b:Bool)(cs:List (AVal×Bool))(off n:Nat):Option (List AVal):=match b with
 |true=>some (((cs.drop off).take n).map (·.1))
 |false=>none
@[go_sem] theorem jbh {cs off n}:ldC true cs off n=some (((cs.drop off).take n).map (·.1)):=rfl
@[go_sem] theorem q0o {cs off n}:zc cs off n=ldC (decide (off+n≤cs.length)) cs off n:=by
 simp only[zc,ldC,qc2]
 cases decide (off+n≤cs.length)<;>rfl
def qvm (agg:Bool)(o n:Nat)(h:qi)(cs:Option (List (AVal×Bool))):Option ORes:=match cs with
 |some cs=>qpi agg h (zc cs o n)
 |none=>none
@[go_sem] theorem q9g {agg o n cs}:qvm agg o n h (some cs)=qpi agg h (zc cs o n):=rfl
@[go_sem] theorem q70 {agg n b o}:yr h0 al agg n h (some (.ptr b o))=ifR (jf h0 al b) (qvm agg o n h (ja h b)):=by
 simp only[yr,ifR,qvm,qpi]
 cases jf h0 al b with
 |false=>rfl
 |true=>
  simp only[cond_true]
  cases ja h b with
  |none=>rfl
  |some cs=>simp only[];cases zc cs o n<;>rfl
def qm5 (r:Option qi)(v:AVal)(w:Bool):Option ORes:=match r with
 |some h'=>some ⟨v,w,none,h'⟩
 |none=>none
@[go_sem] theorem q64 {v w}:qm5 (some h) v w=some ⟨v,w,none,h⟩:=rfl
def qnb (h:qi)(b o:Nat)(cs:List (AVal×Bool))(x:Option (AVal×Bool)):Option ORes:=match x with
 |some (v,w)=>qm5 (jb h b (.cells (cs.set o (v,false)))) v w
 |none=>none
@[go_sem] theorem q6h {b o cs v w}:qnb h b o cs (some (v,w))=qm5 (jb h b (.cells (cs.set o (v,false)))) v w:=rfl
def qm2 (h:qi)(b o:Nat)(cs:Option (List (AVal×Bool))):Option ORes:=match cs with
 |some cs=>qnb h b o cs cs[o]?
 |none=>none
@[go_sem] theorem q49 {b o cs}:qm2 h b o (some cs)=qnb h b o cs cs[o]?:=rfl
def qhx (h0:Nat)(al:Option (List Nat))(off:Option Nat)(h:qi)(x:Option AVal):Option ORes:=match x with
 |some (.ptr b o)=>ifR (jf h0 al b&&qde off o) (qm2 h b o (ja h b))
 |_=>none
@[go_sem] theorem qza {off b o}:qhx h0 al off h (some (.ptr b o))=ifR (jf h0 al b&&qde off o) (qm2 h b o (ja h b)):=rfl
@[go_sem] theorem q4r {o}:qde none o=true:=rfl
@[go_sem] theorem q6u {a o}:qde (some a) o=decide (a=o):=by simp only[qde,qqw]
@[go_sem] theorem q3z {off x}:qb p xc h0 al e h (.loadTake off x)=qhx h0 al off h (qe e x):=by
 simp only[qb,qj,qhx]
 cases qe e x with
 |none=>rfl
 |some v=>cases v with
  |ptr b o=>
   simp only[ifR,qm2,qnb,qm5]
   cases (jf h0 al b&&qde off o)with
   |false=>rfl
   |true=>
    simp only[cond_true]
    cases ja h b with
    |none=>rfl
    |some cs=>
     simp only[]
     cases cs[o]? with
     |none=>rfl
     |some c=>
      obtain⟨v,w⟩:=c
      simp only[]
      cases jb h b (.cells (cs.set o (v,false)))<;>rfl
  |_=>rfl
def qvw (b:Bool)(n:Nat)(x:ABox)(h:qi):Option qi:=match b with
 |true=>some (h.set n x)
 |false=>none
@[go_sem] theorem q8x {n x}:qvw true n x h=some (h.set n x):=rfl
@[go_sem] theorem q8h {b x}:jb h b x=qvw (decide (b<h.length)) b x h:=by
 simp only[jb,qvw,qei]
 cases decide (b<h.length)<;>rfl
def stC (b:Bool)(cs:List (AVal×Bool))(off:Nat)(vs:List AVal):Option (List (AVal×Bool)):=match b with
 |true=>some (cs.take off++vs.map (·,false)++cs.drop (off+vs.length))
 |false=>none
@[go_sem] theorem jai {cs off vs}:stC true cs off vs=some (cs.take off++vs.map (·,false)++cs.drop (off+vs.length)):=rfl
@[go_sem] theorem qy1 {cs off vs}:zn cs off vs=stC (decide (off+vs.length≤cs.length)&&vs.all qf) cs off vs:=by
 simp only[zn,stC,qc2]
 cases (decide (off+vs.length≤cs.length)&&vs.all qf)<;>rfl
def jfy (e:Env)(x:qz):Option Nat:=jn e x
def qro (t:Nat)(x:Option (AVal×Bool)):Option Nat:=match x with
 |some (_,true)=>some t
 |_=>none
@[go_sem] theorem q92 {t v}:qro t (some (v,true))=some t:=rfl
@[go_sem] theorem q6t {t v}:qro t (some (v,false))=none:=rfl
@[go_sem] theorem q84 {t}:jn e (.tmp t)=qro t (qv t e):=by
 simp only[jn,qro];rfl
@[go_sem] theorem q3d {v}:jn e (.const v)=none:=rfl
def qit (h:qi)(b:Nat)(cs:Option (List (AVal×Bool))):Option ORes:=match cs with
 |some cs'=>qba (jb h b (.cells cs')) .undef
 |none=>none
@[go_sem] theorem qzw {b cs}:qit h b (some cs)=qba (jb h b (.cells cs)) .undef:=rfl
def qnf (t:Nat)(r:Option qi):Option ORes:=match r with
 |some h'=>some ⟨.undef,false,some t,h'⟩
 |none=>none
@[go_sem] theorem q40 {t}:qnf t (some h)=some ⟨.undef,false,some t,h⟩:=rfl
def qhq (n:Nat)(h:qi)(b o:Nat)(v:AVal)(own:Option Nat)(cs:Option (List (AVal×Bool))):Option ORes:=match cs,own with
 |some cs,some t=>ifR (Nat.beq n 1&&v.isList&&Nat.blt o cs.length) (qnf t (jb h b (.cells (cs.set o (v,true)))))
 |some cs,none=>ifR (Nat.beq v.flat.length n) (qit h b (zn cs o v.flat))
 |none,_=>none
@[go_sem] theorem q7i {n b o t v cs}:qhq n h b o v (some t) (some cs)=ifR (Nat.beq n 1&&v.isList&&Nat.blt o cs.length) (qnf t (jb h b (.cells (cs.set o (v,true))))):=rfl
@[go_sem] theorem q1g {n b o v cs}:qhq n h b o v none (some cs)=ifR (Nat.beq v.flat.length n) (qit h b (zn cs o v.flat)):=rfl
def qop (h0:Nat)(al:Option (List Nat))(n:Nat)(h:qi)(own:Option Nat)(a x:Option AVal):Option ORes:=match a,x with
 |some (.ptr b o),some v=>ifR (jf h0 al b) (qhq n h b o v own (ja h b))
 |_,_=>none
@[go_sem] theorem q5z {n b o own v}:qop h0 al n h own (some (.ptr b o)) (some v)=ifR (jf h0 al b) (qhq n h b o v own (ja h b)):=rfl
@[go_sem] theorem jed {n a x}:qb p xc h0 al e h (.store n a x)=qop h0 al n h (jn e x) (qe e a) (qe e x):=by
 simp only[qb,qj,qop]
 cases qe e a with
 |none=>rfl
 |some va=>
  cases va with
  |ptr b o=>
   cases qe e x with
   |none=>rfl
   |some v=>
    simp only[ifR]
    cases jf h0 al b with
    |false=>rfl
    |true=>
     simp only[cond_true]
     cases ja h b with
     |none=>rfl
     |some cs=>
      simp only[qhq]
      cases jn e x with
      |none=>
       simp only[ifR,qit,qba]
       cases Nat.beq v.flat.length n with
       |false=>rfl
       |true=>
        simp only[cond_true]
        cases zn cs o v.flat with
        |none=>rfl
        |some cs'=>simp only[];cases jb h b (.cells cs')<;>rfl
      |some t=>
       simp only[ifR,qnf]
       cases (Nat.beq n 1&&v.isList&&Nat.blt o cs.length)with
       |false=>rfl
       |true=>simp only[cond_true];cases jb h b (.cells (cs.set o (v,true)))<;>rfl
  |_=>rfl
@[go_sem] theorem q19 {b z xs}:AVal.isList (.list b z xs)=true:=rfl
@[go_sem] theorem q9c {z:Nat}{f:α→AVal}{l}:AVal.isList (sl z f l)=true:=by cases l<;>rfl
def qkp (b:Bool)(off:Nat)(vs:List AVal)(l:Option (List (Nat×List AVal))):Option (List (Nat×List AVal)):=match b,l with
 |true,some r=>some ((off,vs)::r)
 |_,_=>none
@[go_sem] theorem q2d {off vs r}:qkp true off vs (some r)=some ((off,vs)::r):=rfl
def qon (x:Option AVal)(off n:Nat)(l:Option (List (Nat×List AVal))):Option (List (Nat×List AVal)):=match x with
 |some v=>qkp (Nat.beq v.flat.length n&&v.flat.all qf) off v.flat l
 |none=>none
@[go_sem] theorem q3e {v off n l}:qon (some v) off n l=qkp (Nat.beq v.flat.length n&&v.flat.all qf) off v.flat l:=rfl
@[go_sem] theorem qy6:zo e []=some []:=rfl
@[go_sem] theorem qya {off n x l}:zo e ((off,n,x)::l)=qon (qe e x) off n (zo e l):=by
 simp only[zo,qon,qkp]
 cases qe e x with
 |none=>rfl
 |some v=>simp only[];cases (Nat.beq v.flat.length n&&v.flat.all qf)<;>cases zo e l<;>rfl
def fillR (h:qi)(zero:List AVal)(ps:Option (List (Nat×List AVal))):Option ORes:=match ps with
 |some ps=>fillS h (kg zero ps)
 |none=>none
where fillS (h:qi) (r:Option (List AVal)):Option ORes:=match r with
 |some cs=>some ⟨.agg cs,false,none,h⟩
 |none=>none
@[go_sem] theorem q3y {zero ps}:fillR h zero (some ps)=fillR.fillS h (kg zero ps):=rfl
@[go_sem] theorem q5y {cs}:fillR.fillS h (some cs)=some ⟨.agg cs,false,none,h⟩:=rfl
@[go_sem] theorem jef {zero ps}:qb p xc h0 al e h (.build zero ps)=fillR h zero (zo e ps):=by
 simp only[qb,qg,fillR,fillR.fillS]
 cases zo e ps with
 |none=>rfl
 |some ps=>simp only[];cases kg zero ps<;>rfl
@[go_sem] theorem q8k {cs}:kg cs []=some cs:=rfl
def qrv (b:Bool)(cs:List AVal)(off:Nat)(vs:List AVal)(l:List (Nat×List AVal)):Option (List AVal):=match b with
 |true=>kg (cs.take off++vs++cs.drop (off+vs.length)) l
 |false=>none
@[go_sem] theorem q45 {cs off vs l}:qrv true cs off vs l=kg (cs.take off++vs++cs.drop (off+vs.length)) l:=rfl
@[go_sem] theorem q66 {cs off vs l}:kg cs ((off,vs)::l)=qrv (decide (off+vs.length≤cs.length)) cs off vs l:=by
 simp only[kg,qrv,qc2]
 cases decide (off+vs.length≤cs.length)<;>rfl
def elemsO (x:Option AVal)(i sz:Nat)(l:Option (List (Nat×AVal))):Option (List (Nat×AVal)):=match x with
 |some v=>elemsC (Nat.beq v.flat.length sz&&v.flat.all qf) i v l
 |none=>none
where elemsC (b:Bool) (i:Nat) (v:AVal) (l:Option (List (Nat×AVal))):Option (List (Nat×AVal)):=match b,l with
 |true,some r=>some ((i,v)::r)
 |_,_=>none
@[go_sem] theorem q2s {v i sz l}:elemsO (some v) i sz l=elemsO.elemsC (Nat.beq v.flat.length sz&&v.flat.all qf) i v l:=rfl
@[go_sem] theorem q2w {v i r}:elemsO.elemsC true i v (some r)=some ((i,v)::r):=rfl
@[go_sem] theorem qy0 {sz}:jy e sz []=some []:=rfl
@[go_sem] theorem qye {sz i x l}:jy e sz ((i,x)::l)=elemsO (qe e x) i sz (jy e sz l):=by
 simp only[jy,elemsO,elemsO.elemsC]
 cases qe e x with
 |none=>rfl
 |some v=>simp only[];cases (Nat.beq v.flat.length sz&&v.flat.all qf)<;>cases jy e sz l<;>rfl
@[go_sem] theorem q8c {xs}:qaa xs []=some xs:=rfl
def qo6 (b:Bool)(xs:List AVal)(i:Nat)(v:AVal)(l:List (Nat×AVal)):Option (List AVal):=match b with
 |true=>qaa (xs.set i v) l
 |false=>none
@[go_sem] theorem q28 {xs i v l}:qo6 true xs i v l=qaa (xs.set i v) l:=rfl
@[go_sem] theorem q4c {xs i v l}:qaa xs ((i,v)::l)=qo6 (decide (i<xs.length)) xs i v l:=by
 simp only[qaa,qo6,qei]
 cases decide (i<xs.length)<;>rfl
def sliceR (sz:Nat)(h:qi)(xs:List AVal)(ps:Option (List (Nat×AVal))):Option ORes:=match ps with
 |some ps=>sliceS sz h (qaa xs ps)
 |none=>none
where sliceS (sz:Nat) (h:qi) (r:Option (List AVal)):Option ORes:=match r with
 |some xs=>some ⟨.list false sz xs,true,none,h⟩
 |none=>none
@[go_sem] theorem q2g {sz xs ps}:sliceR sz h xs (some ps)=sliceR.sliceS sz h (qaa xs ps):=rfl
@[go_sem] theorem q20 {sz xs}:sliceR.sliceS sz h (some xs)=some ⟨.list false sz xs,true,none,h⟩:=rfl
@[go_sem] theorem q12 {sz len zero ps}:qb p xc h0 al e h (.buildSlice sz len zero ps)=sliceR sz h (List.replicate len (bif Nat.beq sz 1 then zero.headD .undef else .agg zero)) (jy e sz ps):=by
 simp only[qb,qg,sliceR,sliceR.sliceS]
 cases jy e sz ps with
 |none=>rfl
 |some ps=>simp only[];cases qaa (List.replicate len (bif Nat.beq sz 1 then zero.headD .undef else .agg zero)) ps<;>rfl
def appR (sz bytes:Nat)(h:qi)(own:Option Nat)(x y:Option AVal):Option ORes:=match x,y with
 |some (.list n sz' xs),some vy=>ifR (n||own.isSome) (appS sz bytes h own n sz' xs (jx sz vy))
 |_,_=>none
where appS (sz bytes:Nat) (h:qi) (own:Option Nat) (n:Bool) (sz':Nat) (xs:List AVal) (ys:Option (List AVal)):Option ORes:=match ys with
 |some ys=>ifR ((Nat.beq sz sz'||(xs.isEmpty&&n))&&Nat.ble (xs.length+ys.length) 1073741824&&Nat.ble bytes 4096&&Nat.blt 0 sz) (some ⟨qeb n sz xs ys,true,own,h⟩)
 |none=>none
@[go_sem] theorem q8l {sz bytes own n sz' xs vy}:appR sz bytes h own (some (.list n sz' xs)) (some vy)=ifR (n||own.isSome) (appR.appS sz bytes h own n sz' xs (jx sz vy)):=rfl
@[go_sem] theorem q78 {sz bytes own n sz' xs ys}:appR.appS sz bytes h own n sz' xs (some ys)=ifR ((Nat.beq sz sz'||(xs.isEmpty&&n))&&Nat.ble (xs.length+ys.length) 1073741824&&Nat.ble bytes 4096&&Nat.blt 0 sz) (some ⟨qeb n sz xs ys,true,own,h⟩):=rfl
@[go_sem] theorem jcy {sz bytes x y}:qb p xc h0 al e h (.append none sz bytes x y)=appR sz bytes h (jn e x) (qe e x) (qe e y):=by
 simp only[qb,qg,appR,appR.appS]
 cases qe e x with
 |none=>rfl
 |some vx=>
  cases vx with
  |list n sz' xs=>
   cases qe e y with
   |none=>rfl
   |some vy=>
    simp only[ifR]
    cases (n||(jn e x).isSome)with
    |false=>rfl
    |true=>
     simp only[cond_true]
     cases jx sz vy with
     |none=>rfl
     |some ys=>simp only[];cases ((Nat.beq sz sz'||(xs.isEmpty&&n))&&Nat.ble (xs.length+ys.length) 1073741824&&Nat.ble bytes 4096&&Nat.blt 0 sz)<;>rfl
  |_=>cases qe e y<;>rfl
@[go_sem] theorem jev {z:Nat}{f:α→AVal}{l}:jx z (sl z f l)=some ((l.getD []).map f):=by
 cases l<;>simp[jx,sl]
@[go_sem] theorem jbz {z b xs}:jx z (.list b z xs)=some xs:=by simp[jx]
@[go_sem] theorem jd4 {z z' b}:jx z (.list b z' [])=some []:=by simp[jx]
@[go_sem] theorem q2i {z xs ys}:qeb false z xs ys=.list false z (xs++ys):=rfl
@[go_sem] theorem q60 {z b xs y ys}:qeb b z xs (y::ys)=.list false z (xs++y::ys):=by cases b<;>rfl
attribute [go_sem] Option.isSome_some Option.isSome_none Bool.or_true Bool.true_or List.isEmpty_nil List.isEmpty_cons Bool.and_false Bool.false_and
def qjd (h:qi)(i:Nat)(x:Option AVal):Option ORes:=match x with
 |some (.tup vs)=>y9 h vs[i]?
 |_=>none
@[go_sem] theorem q0v {i vs}:qjd h i (some (.tup vs))=y9 h vs[i]?:=rfl
@[go_sem] theorem q79 {i x}:qb p xc h0 al e h (.extract x i)=qjd h i (qe e x):=by
 simp only[qb,qg,qjd]
 cases qe e x with
 |none=>rfl
 |some v=>cases v<;>rfl
def un1 (op:UnOp)(h:qi)(x:Option AVal):Option ORes:=match x with
 |some v=>y9 h (qe7 op v)
 |none=>none
@[go_sem] theorem jap {op v}:un1 op h (some v)=y9 h (qe7 op v):=rfl
@[go_sem] theorem jfv {op x}:qb p xc h0 al e h (.un op x)=un1 op h (qe e x):=by
 simp only[qb,qg,un1]
 cases qe e x<;>rfl
@[go_sem] theorem jey {b}:qe7 .not (.bool b)=some (.bool (!b)):=rfl
@[go_sem] theorem jeo {k n}:qe7 .neg (.int k n)=some (.int k (qa k (0-n))):=rfl
def qu1 (neq:Bool)(h:qi)(x y:Option AVal):Option ORes:=match x,y with
 |some (.bool a),some (.bool b)=>val h (.bool (bif neq then !(a == b)else a == b))
 |_,_=>none
@[go_sem] theorem q83 {neq a b}:qu1 neq h (some (.bool a)) (some (.bool b))=some ⟨.bool (bif neq then !(a == b)else a == b),false,none,h⟩:=rfl
@[go_sem] theorem jft {neq x y}:qb p xc h0 al e h (.beq neq x y)=qu1 neq h (qe e x) (qe e y):=by
 simp only[qb,qg,qu1]
 cases qe e x with
 |none=>rfl
 |some v=>cases v<;>cases qe e y<;>rfl
def qk5 (f:Fn)(h:qi)(a b:Option (List AVal)):Option ORes:=match a,b with
 |some a,some b=>val h (.fn f a b)
 |_,_=>none
@[go_sem] theorem q0s {f a b}:qk5 f h (some a) (some b)=some ⟨.fn f a b,false,none,h⟩:=rfl
@[go_sem] theorem jdh {f a b}:qb p xc h0 al e h (.mkfunc f a b)=qk5 f h (zw e a) (zw e b):=by
 simp only[qb,qg,qk5]
 cases zw e a<;>cases zw e b<;>rfl
def mxR (f:AVal→AVal→Option AVal)(h:qi)(l:Option (List AVal)):Option ORes:=match l with
 |some (v::vs)=>y9 h (qbc f v vs)
 |_=>none
@[go_sem] theorem jbn {f v vs}:mxR f h (some (v::vs))=y9 h (qbc f v vs):=rfl
@[go_sem] theorem jfw {l}:qb p xc h0 al e h (.mx l)=mxR max2 h (zw e l):=by
 simp only[qb,qg,mxR]
 cases zw e l with
 |none=>rfl
 |some vs=>cases vs<;>rfl
@[go_sem] theorem jfx {l}:qb p xc h0 al e h (.mn l)=mxR min2 h (zw e l):=by
 simp only[qb,qg,mxR]
 cases zw e l with
 |none=>rfl
 |some vs=>cases vs<;>rfl
def qsc (f:AVal→AVal→Option AVal)(x:Option AVal)(l:List AVal):Option AVal:=match x with
 |some z=>qbc f z l
 |none=>none
@[go_sem] theorem q3x {f x l}:qsc f (some x) l=qbc f x l:=rfl
@[go_sem] theorem q8t {f x}:qbc f x []=some x:=rfl
@[go_sem] theorem q32 {f x y l}:qbc f x (y::l)=qsc f (f x y) l:=by
 simp only[qbc,qsc];rfl
@[go_sem] theorem jbt {k x y}:max2 (.int k x) (.int k y)=some (.int k (max x y)):=by
 simp only[max2,decide_true,cond_true]
 congr 2
 by_cases h:y > x
 ·rw[if_pos h];omega
 ·rw[if_neg h];omega
@[go_sem] theorem jcc {k x y}:min2 (.int k x) (.int k y)=some (.int k (min x y)):=by
 simp only[min2,decide_true,cond_true]
 congr 2
 by_cases h:y<x
 ·rw[if_pos h];omega
 ·rw[if_neg h];omega
def qt6 (k:Nat)(neq:Bool)(h:qi)(x:Option AVal):Option ORes:=match k,x with
  |0,some (.list n _ _)=>val h (.bool (bif neq then !n else n))
  |0,some (.ms ..)=>val h (.bool neq)
  |1,some .nilptr=>val h (.bool (!neq))
  |1,some (.ptr ..)=>val h (.bool neq)
  |1,some (.vptr ..)=>val h (.bool neq)
  |2,some .nilmap=>val h (.bool (!neq))
  |2,some (.map ..)=>val h (.bool neq)
  |3,some .nilfn=>val h (.bool (!neq))
  |3,some (.fn ..)=>val h (.bool neq)
  |_,_=>none
@[go_sem] theorem jeh {k neq x}:qb p xc h0 al e h (.nilEq k neq x)=qt6 k neq h (qe e x):=rfl
@[go_sem] theorem q4m {neq n z xs}:qt6 0 neq h (some (.list n z xs))=some ⟨.bool (bif neq then !n else n),false,none,h⟩:=rfl
@[go_sem] theorem q8g {n k i}:below n (.int k i)=true:=rfl
@[go_sem] theorem q3i {n b}:below n (.bool b)=true:=rfl
@[go_sem] theorem q9d {n s}:below n (.str s)=true:=rfl
@[go_sem] theorem q7p {n b z xs}:below n (.list b z xs)=qo n xs:=by simp only[below]
@[go_sem] theorem q9u {n xs}:below n (.agg xs)=qo n xs:=by simp only[below]
@[go_sem] theorem q9j {n xs}:below n (.tup xs)=qo n xs:=by simp only[below]
@[go_sem] theorem q7w {n b o}:below n (.ptr b o)=decide (b<n):=by simp only[below,qei]
@[go_sem] theorem q8v {n b}:below n (.map b)=decide (b<n):=by simp only[below,qei]
@[go_sem] theorem jcs {n k a b}:below n (.fn (.func k) a b)=(qo n a&&qo n b):=by simp only[below]
@[go_sem] theorem q61 {n}:qo n []=true:=by simp only[qo]
@[go_sem] theorem qpt {n x xs}:qo n (x::xs)=(below n x&&qo n xs):=by simp only[qo]
@[go_sem] theorem q6n {n i}:below n (y6 i)=true:=rfl
@[go_sem] theorem q6s {n z l}:below n (sl z y6 l)=true:=qoo fun _=>rfl
theorem qjt {n f}(hf:∀x,below n (f x)=true):∀l:List α,qo n (l.map f)=true
 | []=>rfl
 |x::l=>by rw[List.map_cons,qpt,hf,qjt hf l];rfl
@[go_sem] theorem q23 {n:Nat}{l:List Int}:qo n (l.map y6)=true:=qjt (fun _=>rfl) l
@[go_sem] theorem jdt {k i}:yv h (.int k i)=some (.int k i):=rfl
@[go_sem] theorem jc6 {b}:yv h (.bool b)=some (.bool b):=rfl
@[go_sem] theorem jeb {s}:yv h (.str s)=some (.str s):=rfl
@[go_sem] theorem jba {b z xs}:yv h (.list b z xs)=some (.list b z xs):=rfl
@[go_sem] theorem q1x {z:Nat}{f:α→AVal}{l}:yv h (sl z f l)=some (sl z f l):=by cases l<;>rfl
@[go_sem] theorem jcq:yz h []=some []:=rfl
@[go_sem] theorem q8q {v vs}:yz h (v::vs)=qbz (yv h v) (yz h vs):=by
 simp only[yz,qbz]
 cases yv h v with
 |none=>rfl
 |some x=>cases yz h vs<;>rfl
def qrx (l:Option (List AVal)):Option AVal:=match l with
 |some xs=>some (.agg xs)
 |none=>none
@[go_sem] theorem q93 {xs}:qrx (some xs)=some (.agg xs):=rfl
@[go_sem] theorem jc2 {cs}:freezeR h (.agg cs)=qrx (yz h cs):=by
 simp only[freezeR,qrx]
 cases yz h cs<;>rfl
@[go_sem] theorem jao {k i}:freezeR h (.int k i)=some (.int k i):=rfl
@[go_sem] theorem q9n {b}:freezeR h (.bool b)=some (.bool b):=rfl
@[go_sem] theorem jdq {s}:freezeR h (.str s)=some (.str s):=rfl
@[go_sem] theorem q9f {b z xs}:freezeR h (.list b z xs)=some (.list b z xs):=rfl
@[go_sem] theorem jee {z:Nat}{f:α→AVal}{l}:freezeR h (sl z f l)=some (sl z f l):=by cases l<;>rfl
def qvs (l:Option (List AVal)):Option AVal:=match l with
 |some xs=>some (.tup xs)
 |none=>none
@[go_sem] theorem q76 {xs}:qvs (some xs)=some (.tup xs):=rfl
@[go_sem] theorem jbq {cs}:freezeR h (.tup cs)=qvs (freezeR.freezeT h cs):=by
 simp only[freezeR,qvs]
 cases freezeR.freezeT h cs<;>rfl
@[go_sem] theorem jcj:freezeR.freezeT h []=some []:=rfl
@[go_sem] theorem jbr {cs vs}:freezeR.freezeT h (.agg cs::vs)=qbz (qrx (yz h cs)) (freezeR.freezeT h vs):=by
 rw[freezeR.freezeT]
 cases yz h cs with
 |none=>rfl
 |some x=>cases freezeR.freezeT h vs<;>rfl
theorem qep {v vs}(hv:v.isAgg=false):freezeR.freezeT h (v::vs)=qbz (yv h v) (freezeR.freezeT h vs):=by
 have:∀cs,v≠.agg cs:=fun cs hc=>by rw[hc]at hv;cases hv
 rw[freezeR.freezeT]
 ·cases yv h v with
  |none=>rfl
  |some x=>cases freezeR.freezeT h vs<;>rfl
 ·exact this
@[go_sem] theorem jat {k i vs}:freezeR.freezeT h (.int k i::vs)=qbz (some (.int k i)) (freezeR.freezeT h vs):=qep rfl
@[go_sem] theorem q9o {b vs}:freezeR.freezeT h (.bool b::vs)=qbz (some (.bool b)) (freezeR.freezeT h vs):=qep rfl
@[go_sem] theorem jc3 {s vs}:freezeR.freezeT h (.str s::vs)=qbz (some (.str s)) (freezeR.freezeT h vs):=qep rfl
@[go_sem] theorem q8y {b z xs vs}:freezeR.freezeT h (.list b z xs::vs)=qbz (some (.list b z xs)) (freezeR.freezeT h vs):=qep rfl
@[go_sem] theorem jd0 {z:Nat}{f:α→AVal}{l vs}:freezeR.freezeT h (sl z f l::vs)=qbz (some (sl z f l)) (freezeR.freezeT h vs):=by
 rw[qep (by cases l<;>rfl),q1x]
attribute [go_sem] List.contains_cons List.contains_nil
@[go_sem] theorem jeg {a b:Nat}:(a == b)=decide (a=b):=by
 by_cases hab:a=b<;>simp[hab]
def qkh (agg:Bool)(c:Option (AVal×Bool))(vs:Option (List AVal)):Option (AVal×Bool):=match vs,agg with
 |some vs,true=>some (.agg vs,false)
 |some _,false=>c
 |none,_=>none
@[go_sem] theorem q89 {c vs}:qkh true c (some vs)=some (.agg vs,false):=rfl
@[go_sem] theorem q9l {c vs}:qkh false c (some vs)=c:=rfl
def qm7 (agg:Bool)(o n:Nat)(cs:Option (List (AVal×Bool))):Option (AVal×Bool):=match cs with
 |some cs=>qkh agg cs[o]? (zc cs o n)
 |none=>none
@[go_sem] theorem q3l {agg o n cs}:qm7 agg o n (some cs)=qkh agg cs[o]? (zc cs o n):=rfl
def qr0 (agg:Bool)(n:Nat)(h:qi)(x:Option (AVal×Bool)):Option (AVal×Bool):=match x with
 |some (.ptr b o,_)=>qm7 agg o n (ja h b)
 |_=>none
@[go_sem] theorem q81 {agg n b o w}:qr0 agg n h (some (.ptr b o,w))=qm7 agg o n (ja h b):=rfl
@[go_sem] theorem qyy {t n agg}:qac ⟨e,h⟩ (.cell t agg n)=qr0 agg n h (qv t e):=by
 simp only[qac,qr0]
 cases qv t e with
 |none=>rfl
 |some x=>
  obtain⟨v,w⟩:=x
  cases v with
  |ptr b o=>
   simp only[qm7]
   cases ja h b with
   |none=>rfl
   |some cs=>
    simp only[qkh]
    cases zc cs o n with
    |none=>rfl
    |some vs=>cases agg with
     |true=>rfl
     |false=>simp only[cond_false];cases cs[o]?<;>rfl
  |_=>rfl
theorem yb {k args v v' o}(hp:p.prims k=none)(hc:jq p xc k args []=some (v,o,h))(hz:freezeR h v=some v')(hv:below 0 v'=true):qd p xc k args=some (v',o&&v.isList):=by
 unfold qd
 rw[hp]
 simp only[hc,hz,qa0,hv,cond_true]
end
end Go.Abs
