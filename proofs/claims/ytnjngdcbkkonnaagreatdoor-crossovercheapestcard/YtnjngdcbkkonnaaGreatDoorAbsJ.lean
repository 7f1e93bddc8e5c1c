/- Equations of the executor, second part. -/
import Derived.Test.YtnjngdcbkkonnaaGreatDoorAbsI
set_option linter.unusedVariables false
set_option linter.unusedSimpArgs false
namespace Go.Abs
section
variable {p:jl} {xc:XC} {h0:Nat} {al:Option (List Nat)} {e:Env} {h:qk} {α:Type}
attribute [go_sem] List.getElem?_cons_zero List.getElem?_cons_succ List.getElem?_nil List.set_cons_zero List.set_cons_succ List.set_nil List.cons_append List.replicate_zero List.replicate_succ List.map_cons List.map_nil List.all_cons List.all_nil List.drop_zero List.drop_succ_cons List.take_zero List.take_succ_cons List.drop_nil List.take_nil Bool.and_true Bool.true_and Bool.or_false Bool.false_or Bool.and_self List.headD_cons List.foldl_cons List.foldl_nil List.flatMap_cons List.flatMap_nil
@[go_sem] theorem jz1 {k:IntKind} {n:Int}:qo (.int k n)=true:=rfl
@[go_sem] theorem jzf {b:Bool}:qo (.bool b)=true:=rfl
@[go_sem] theorem jz0 {s:List UInt8}:qo (.str s)=true:=rfl
@[go_sem] theorem jy4 {b:Bool} {z:Nat} {xs:List AVal}:qo (.list b z xs)=true:=rfl
@[go_sem] theorem j0b {b o n:Nat}:qo (.ms b o n)=true:=rfl
@[go_sem] theorem jzv {b o:Nat}:qo (.ptr b o)=true:=rfl
@[go_sem] theorem jzl {b:Nat}:qo (.map b)=true:=rfl
@[go_sem] theorem jrz:qo .nilptr=true:=rfl
@[go_sem] theorem jtn:qo .nilmap=true:=rfl
@[go_sem] theorem jx9:qo .nilfn=true:=rfl
@[go_sem] theorem j0d {f:Fn} {a b:List AVal}:qo (.fn f a b)=true:=rfl
@[go_sem] theorem jz4 {z:Nat} {f:α→AVal} {l:Option (List α)}:qo (sl z f l)=true:=by cases l <;> rfl
@[go_sem] theorem jxd {cs:List AVal}:AVal.flat (.agg cs)=cs:=rfl
@[go_sem] theorem jve {k:IntKind} {n:Int}:AVal.flat (.int k n)=[.int k n]:=rfl
@[go_sem] theorem jsj {b:Bool}:AVal.flat (.bool b)=[.bool b]:=rfl
@[go_sem] theorem jwj {s:List UInt8}:AVal.flat (.str s)=[.str s]:=rfl
@[go_sem] theorem js0 {b:Bool} {z:Nat} {xs:List AVal}:AVal.flat (.list b z xs)=[.list b z xs]:=rfl
@[go_sem] theorem jy8 {z:Nat} {f:α→AVal} {l:Option (List α)}:AVal.flat (sl z f l)=[sl z f l]:=by cases l <;> rfl
@[go_sem] theorem jxk {b o:Nat}:AVal.flat (.ptr b o)=[.ptr b o]:=rfl
@[go_sem] theorem jv9 {b:Nat}:AVal.flat (.map b)=[.map b]:=rfl
@[go_sem] theorem jyq {f:Fn} {a b:List AVal}:AVal.flat (.fn f a b)=[.fn f a b]:=rfl
@[go_sem] theorem jy7 {b o n:Nat}:AVal.flat (.ms b o n)=[.ms b o n]:=rfl
@[go_sem] theorem qic {a b:Nat}:Nat.beq a b=decide (a=b):=by
 cases h:Nat.beq a b with
 | true=>have:=Nat.eq_of_beq_eq_true h; simp [this]
 | false=>
  have:a ≠ b:=fun hh=>by subst hh; simp at h
  simp [this]
@[go_sem] theorem qae {a b:Nat}:Nat.ble a b=decide (a≤b):=by
 cases h:Nat.ble a b with
 | true=>have:=Nat.le_of_ble_eq_true h; simp [this]
 | false=>
  have:¬ a≤b:=fun hh=>by rw [Nat.ble_eq_true_of_le hh] at h; cases h
  simp [this]
@[go_sem] theorem qbm {a b:Nat}:Nat.blt a b=decide (a < b):=by
 show Nat.ble (a + 1) b=_
 rw [qae]; rfl
@[go_sem] theorem js7 {b:Nat}:j6 h0 none b=true:=rfl
@[go_sem] theorem jy2:exl []=false:=rfl
@[go_sem] theorem jt5 {k:Nat} {l:List Nat}:exl (k::l)=decide (1000≤k):=by simp only [exl,qae]
@[go_sem] theorem jvo {k b:Nat} {l:List Nat}:exq h0 (k::l) b=cond (decide (k < 2000)) (decide (b=k - 1000) && decide (b < h0)) (decide (b=h0 + (k - 2000))):=by
 have e:∀ x y:Nat,Nat.beq x y=decide (x=y):=fun x y=>by
  cases h:Nat.beq x y with
  | true=>rw [Nat.eq_of_beq_eq_true h]; simp
  | false=>
   have:x ≠ y:=fun e=>by rw [e,Nat.beq_refl] at h; cases h
   simp [this]
 simp only [exq,qbm,e]
@[go_sem] theorem jqu {b:Nat} {l:List Nat}:j6 h0 (some l) b=cond (exl l) (exq h0 l b) (decide (b < h0) || l.contains (b - h0)):=by simp only [j6,qbm]
def qaa (r:Option qk) (v:AVal):Option ORes:=match r with
 | some h'=>some ⟨v,false,none,h'⟩
 | none=>none
@[go_sem] theorem jr0 {v:AVal}:qaa (some h) v=some ⟨v,false,none,h⟩:=rfl
@[go_sem] theorem jsl {h0 r:Nat} {es:List (AVal × AVal)}:q4t h0 r h true (some es)=qaa (newBox h0 h r (.map es)) (.map (h0 + r)):=rfl
def q8z (n:Nat) (h:qk) (b:Option ABox) (x:ABox):Option qk:=match b with
 | some .hole=>some (h.set n x)
 | _=>none
@[go_sem] theorem jtm {n:Nat} {x:ABox}:q8z n h (some .hole) x=some (h.set n x):=rfl
@[go_sem] theorem jsk {r:Nat} {x:ABox}:newBox h0 h r x=q8z (h0 + r) h h[h0 + r]? x:=by
 unfold newBox q8z; rfl
def ifR (b:Bool) (r:Option ORes):Option ORes:=match b with
 | true=>r
 | false=>none
@[go_sem] theorem juo {r:Option ORes}:ifR true r=r:=rfl
@[go_sem] theorem jy5 {r:Nat} {z:List AVal}:qe p xc h0 al e h (.alloc r z)=ifR (z.all qo) (qaa (newBox h0 h r (.cells (cellsOf z))) (.ptr (h0 + r) 0)):=by
 simp only [qe,qx,ifR]
 cases z.all qo with
 | false=>rfl
 | true=>simp only [cond_true,qaa]; cases newBox h0 h r (.cells (cellsOf z)) <;> rfl
def q4x (n:Nat) (h:qk) (x:Option AVal):Option ORes:=match x with
 | some v=>ifR (Nat.beq v.flat.length n && v.flat.all qo) (some ⟨.vptr v,false,none,h⟩)
 | none=>none
@[go_sem] theorem jmy {n:Nat} {v:AVal}:q4x n h (some v)=ifR (Nat.beq v.flat.length n && v.flat.all qo) (some ⟨.vptr v,false,none,h⟩):=rfl
@[go_sem] theorem jzw {n:Nat} {x:qv}:qe p xc h0 al e h (.vbox n x)=q4x n h (qj e x):=by
 simp only [qe,qr,q4x]
 cases qj e x with
 | none=>rfl
 | some v=>
  simp only [ifR]
  cases (Nat.beq v.flat.length n && v.flat.all qo) <;> rfl
def q83 (h0 r n:Nat) (h:qk) (x:Option AVal):Option ORes:=match x with
 | some v=>ifR (Nat.beq v.flat.length n && v.flat.all qo) (qaa (newBox h0 h r (.cells (cellsOf v.flat))) (.ptr (h0 + r) 0))
 | none=>none
@[go_sem] theorem jr4 {r n:Nat} {v:AVal}:q83 h0 r n h (some v)=ifR (Nat.beq v.flat.length n && v.flat.all qo) (qaa (newBox h0 h r (.cells (cellsOf v.flat))) (.ptr (h0 + r) 0)):=rfl
@[go_sem] theorem jz5 {r n:Nat} {x:qv}:qe p xc h0 al e h (.box r n x)=q83 h0 r n h (qj e x):=by
 simp only [qe,qx,q83]
 cases qj e x with
 | none=>rfl
 | some v=>
  simp only [ifR,qaa]
  cases (Nat.beq v.flat.length n && v.flat.all qo) with
  | false=>rfl
  | true=>simp only [cond_true]; cases newBox h0 h r (.cells (cellsOf v.flat)) <;> rfl
@[go_sem] theorem jdl {r:Nat}:qe p xc h0 al e h (.mkmap r)=qaa (newBox h0 h r (.map [])) (.map (h0 + r)):=by
 simp only [qe,qx,qaa]
 cases newBox h0 h r (.map []) <;> rfl
@[go_sem] theorem jko:cellsOf []=[]:=rfl
@[go_sem] theorem jif {v:AVal} {vs:List AVal}:cellsOf (v::vs)=(v,false)::cellsOf vs:=rfl
def qfi (agg:Bool) (h:qk) (r:Option AVal):Option ORes:=match r with
 | some v=>bif Bool.xor agg v.isAgg then none else val h (.vptr v)
 | none=>none
def qey (agg:Bool) (off n:Nat) (h:qk) (x:Option AVal):Option ORes:=match x with
 | some (.ptr b o)=>val h (.ptr b (o + off))
 | some (.vptr (.agg cs))=>qfi agg h (part agg cs off n)
 | _=>none
@[go_sem] theorem je3 {agg:Bool} {off n b o:Nat}:qey agg off n h (some (.ptr b o))=some ⟨.ptr b (o + off),false,none,h⟩:=rfl
@[go_sem] theorem jdg {agg:Bool} {off n:Nat} {cs:List AVal}:qey agg off n h (some (.vptr (.agg cs)))=qfi agg h (part agg cs off n):=rfl
@[go_sem] theorem jkj {agg:Bool} {off n:Nat} {x:qv}:qe p xc h0 al e h (.fieldAddr agg off n x)=qey agg off n h (qj e x):=by
 simp only [qe,qr,qey]
 cases qj e x with
 | none=>rfl
 | some v=>cases v with
  | vptr v=>cases v <;> rfl
  | _=>rfl
def jzj (v:AVal):Prop:=v.isAgg=false
theorem jtw {v:AVal} (hv:v.isAgg=false):qfi false h (some v)=some ⟨.vptr v,false,none,h⟩:=by simp [qfi,hv,val]
@[go_sem] theorem jsd {k:IntKind} {n:Int}:qfi false h (some (.int k n))=some ⟨.vptr (.int k n),false,none,h⟩:=rfl
@[go_sem] theorem jtu {s:List UInt8}:qfi false h (some (.str s))=some ⟨.vptr (.str s),false,none,h⟩:=rfl
@[go_sem] theorem jrh {b:Bool}:qfi false h (some (.bool b))=some ⟨.vptr (.bool b),false,none,h⟩:=rfl
@[go_sem] theorem jxh {z:Nat} {f:α→AVal} {l:Option (List α)}:qfi false h (some (sl z f l))=some ⟨.vptr (sl z f l),false,none,h⟩:=by cases l <;> rfl
@[go_sem] theorem js1 {cs:List AVal}:qfi true h (some (.agg cs))=some ⟨.vptr (.agg cs),false,none,h⟩:=rfl
@[go_sem] theorem jv0 {cs:List AVal} {off n:Nat}:part false cs off n=cs[off]?:=rfl
def q4k (b:Bool) (cs:List AVal) (off n:Nat):Option AVal:=match b with
 | true=>some (.agg ((cs.drop off).take n))
 | false=>none
@[go_sem] theorem jn4 {cs:List AVal} {off n:Nat}:q4k true cs off n=some (.agg ((cs.drop off).take n)):=rfl
@[go_sem] theorem jwm {cs:List AVal} {off n:Nat}:part true cs off n=q4k (decide (off + n≤cs.length)) cs off n:=by
 simp only [part,q4k,cond_true,qae]
 cases decide (off + n≤cs.length) <;> rfl
@[go_sem] theorem jwk {z:Nat} {f:α→AVal} {l:Option (List α)}:qa2 h0 al false 1 h (some (.vptr (sl z f l)))=some ⟨sl z f l,false,none,h⟩:=by cases l <;> rfl
def q9o (h:qk) (cs:List AVal) (b:Bool):Option ORes:=match b with
 | true=>some ⟨.agg cs,false,none,h⟩
 | false=>none
@[go_sem] theorem jsm {cs:List AVal}:q9o h cs true=some ⟨.agg cs,false,none,h⟩:=rfl
@[go_sem] theorem jp5 {n:Nat} {cs:List AVal}:qa2 h0 al true n h (some (.vptr (.agg cs)))=q9o h cs (decide (cs.length=n)):=by
 unfold q9o
 by_cases hn:cs.length=n
 ·rw [q5q hn]; simp [hn]
 ·simp [qa2,AVal.isAgg,AVal.flat,hn,qic]
def qzb (agg:Bool) (h:qk) (vs:Option (List AVal)):Option ORes:=match vs with
 | some vs=>bif agg then val h (.agg vs) else (match vs with
  | [v]=>val h v
  | _=>none)
 | none=>none
@[go_sem] theorem jw1 {vs:List AVal}:qzb true h (some vs)=some ⟨.agg vs,false,none,h⟩:=rfl
@[go_sem] theorem jub {v:AVal}:qzb false h (some [v])=some ⟨v,false,none,h⟩:=rfl
def qyk (b:Option ABox):Option (List (AVal × Bool)):=match b with
 | some (.cells cs)=>some cs
 | _=>none
@[go_sem] theorem jj8 {cs:List (AVal × Bool)}:qyk (some (.cells cs))=some cs:=rfl
@[go_sem] theorem jkr {b:Nat}:jk h b=qyk h[b]?:=by unfold jk qyk; rfl
def ldC (b:Bool) (cs:List (AVal × Bool)) (off n:Nat):Option (List AVal):=match b with
 | true=>some (((cs.drop off).take n).map (·.1))
 | false=>none
@[go_sem] theorem q89 {cs:List (AVal × Bool)} {off n:Nat}:ldC true cs off n=some (((cs.drop off).take n).map (·.1)):=rfl
@[go_sem] theorem q0u {cs:List (AVal × Bool)} {off n:Nat}:yf cs off n=ldC (decide (off + n≤cs.length)) cs off n:=by
 simp only [yf,ldC,qae]
 cases decide (off + n≤cs.length) <;> rfl
def ja4 (agg:Bool) (o n:Nat) (h:qk) (cs:Option (List (AVal × Bool))):Option ORes:=match cs with
 | some cs=>qzb agg h (yf cs o n)
 | none=>none
@[go_sem] theorem jtf {agg:Bool} {o n:Nat} {cs:List (AVal × Bool)}:ja4 agg o n h (some cs)=qzb agg h (yf cs o n):=rfl
@[go_sem] theorem jsh {agg:Bool} {n b o:Nat}:qa2 h0 al agg n h (some (.ptr b o))=ifR (j6 h0 al b) (ja4 agg o n h (jk h b)):=by
 simp only [qa2,ifR,ja4,qzb]
 cases j6 h0 al b with
 | false=>rfl
 | true=>
  simp only [cond_true]
  cases jk h b with
  | none=>rfl
  | some cs=>simp only []; cases yf cs o n <;> rfl
def qxw (r:Option qk) (v:AVal) (w:Bool):Option ORes:=match r with
 | some h'=>some ⟨v,w,none,h'⟩
 | none=>none
@[go_sem] theorem jqq {v:AVal} {w:Bool}:qxw (some h) v w=some ⟨v,w,none,h⟩:=rfl
def qx2 (h:qk) (b o:Nat) (cs:List (AVal × Bool)) (x:Option (AVal × Bool)):Option ORes:=match x with
 | some (v,w)=>qxw (jw h b (.cells (cs.set o (v,false)))) v w
 | none=>none
@[go_sem] theorem joj {b o:Nat} {cs:List (AVal × Bool)} {v:AVal} {w:Bool}:qx2 h b o cs (some (v,w))=qxw (jw h b (.cells (cs.set o (v,false)))) v w:=rfl
def qx1 (h:qk) (b o:Nat) (cs:Option (List (AVal × Bool))):Option ORes:=match cs with
 | some cs=>qx2 h b o cs cs[o]?
 | none=>none
@[go_sem] theorem jpd {b o:Nat} {cs:List (AVal × Bool)}:qx1 h b o (some cs)=qx2 h b o cs cs[o]?:=rfl
def qpk (h0:Nat) (al:Option (List Nat)) (off:Option Nat) (h:qk) (x:Option AVal):Option ORes:=match x with
 | some (.ptr b o)=>ifR (j6 h0 al b && qgg off o) (qx1 h b o (jk h b))
 | _=>none
@[go_sem] theorem jey {off:Option Nat} {b o:Nat}:qpk h0 al off h (some (.ptr b o))=ifR (j6 h0 al b && qgg off o) (qx1 h b o (jk h b)):=rfl
@[go_sem] theorem jrg {o:Nat}:qgg none o=true:=rfl
@[go_sem] theorem jn6 {a o:Nat}:qgg (some a) o=decide (a=o):=by simp only [qgg,qic]
@[go_sem] theorem jn3 {off:Option Nat} {x:qv}:qe p xc h0 al e h (.loadTake off x)=qpk h0 al off h (qj e x):=by
 simp only [qe,qx,qpk]
 cases qj e x with
 | none=>rfl
 | some v=>cases v with
  | ptr b o=>
   simp only [ifR,qx1,qx2,qxw]
   cases (j6 h0 al b && qgg off o) with
   | false=>rfl
   | true=>
    simp only [cond_true]
    cases jk h b with
    | none=>rfl
    | some cs=>
     simp only []
     cases cs[o]? with
     | none=>rfl
     | some c=>
      obtain ⟨v,w⟩:=c
      simp only []
      cases jw h b (.cells (cs.set o (v,false))) <;> rfl
  | _=>rfl
def ja5 (b:Bool) (n:Nat) (x:ABox) (h:qk):Option qk:=match b with
 | true=>some (h.set n x)
 | false=>none
@[go_sem] theorem jtb {n:Nat} {x:ABox}:ja5 true n x h=some (h.set n x):=rfl
@[go_sem] theorem jss {b:Nat} {x:ABox}:jw h b x=ja5 (decide (b < h.length)) b x h:=by
 simp only [jw,ja5,qbm]
 cases decide (b < h.length) <;> rfl
def stC (b:Bool) (cs:List (AVal × Bool)) (off:Nat) (vs:List AVal):Option (List (AVal × Bool)):=match b with
 | true=>some (cs.take off++vs.map (·,false)++cs.drop (off + vs.length))
 | false=>none
@[go_sem] theorem qz5 {cs:List (AVal × Bool)} {off:Nat} {vs:List AVal}:stC true cs off vs=some (cs.take off++vs.map (·,false)++cs.drop (off + vs.length)):=rfl
@[go_sem] theorem qok {cs:List (AVal × Bool)} {off:Nat} {vs:List AVal}:zz cs off vs=stC (decide (off + vs.length≤cs.length) && vs.all qo) cs off vs:=by
 simp only [zz,stC,qae]
 cases (decide (off + vs.length≤cs.length) && vs.all qo) <;> rfl
def j0v (e:Env) (x:qv):Option Nat:=zi e x
def q33 (t:Nat) (x:Option (AVal × Bool)):Option Nat:=match x with
 | some (_,true)=>some t
 | _=>none
@[go_sem] theorem jr2 {t:Nat} {v:AVal}:q33 t (some (v,true))=some t:=rfl
@[go_sem] theorem jlr {t:Nat} {v:AVal}:q33 t (some (v,false))=none:=rfl
@[go_sem] theorem jsq {t:Nat}:zi e (.tmp t)=q33 t (look t e):=by
 simp only [zi,q33]; rfl
@[go_sem] theorem jk1 {v:AVal}:zi e (.const v)=none:=rfl
def qrr (h:qk) (b:Nat) (cs:Option (List (AVal × Bool))):Option ORes:=match cs with
 | some cs'=>qaa (jw h b (.cells cs')) .undef
 | none=>none
@[go_sem] theorem jg3 {b:Nat} {cs:List (AVal × Bool)}:qrr h b (some cs)=qaa (jw h b (.cells cs)) .undef:=rfl
def qya (t:Nat) (r:Option qk):Option ORes:=match r with
 | some h'=>some ⟨.undef,false,some t,h'⟩
 | none=>none
@[go_sem] theorem jon {t:Nat}:qya t (some h)=some ⟨.undef,false,some t,h⟩:=rfl
def qpv (n:Nat) (h:qk) (b o:Nat) (v:AVal) (own:Option Nat) (cs:Option (List (AVal × Bool))):Option ORes:=match cs,own with
 | some cs,some t=>ifR (Nat.beq n 1 && v.isList && Nat.blt o cs.length) (qya t (jw h b (.cells (cs.set o (v,true)))))
 | some cs,none=>ifR (Nat.beq v.flat.length n) (qrr h b (zz cs o v.flat))
 | none,_=>none
@[go_sem] theorem jpl {n b o t:Nat} {v:AVal} {cs:List (AVal × Bool)}:qpv n h b o v (some t) (some cs)=ifR (Nat.beq n 1 && v.isList && Nat.blt o cs.length) (qya t (jw h b (.cells (cs.set o (v,true))))):=rfl
@[go_sem] theorem jjf {n b o:Nat} {v:AVal} {cs:List (AVal × Bool)}:qpv n h b o v none (some cs)=ifR (Nat.beq v.flat.length n) (qrr h b (zz cs o v.flat)):=rfl
def qzo (h0:Nat) (al:Option (List Nat)) (n:Nat) (h:qk) (own:Option Nat) (a x:Option AVal):Option ORes:=match a,x with
 | some (.ptr b o),some v=>ifR (j6 h0 al b) (qpv n h b o v own (jk h b))
 | _,_=>none
@[go_sem] theorem jli {n b o:Nat} {own:Option Nat} {v:AVal}:qzo h0 al n h own (some (.ptr b o)) (some v)=ifR (j6 h0 al b) (qpv n h b o v own (jk h b)):=rfl
@[go_sem] theorem jzb {n:Nat} {a x:qv}:qe p xc h0 al e h (.store n a x)=qzo h0 al n h (zi e x) (qj e a) (qj e x):=by
 simp only [qe,qx,qzo]
 cases qj e a with
 | none=>rfl
 | some va=>
  cases va with
  | ptr b o=>
   cases qj e x with
   | none=>rfl
   | some v=>
    simp only [ifR]
    cases j6 h0 al b with
    | false=>rfl
    | true=>
     simp only [cond_true]
     cases jk h b with
     | none=>rfl
     | some cs=>
      simp only [qpv]
      cases zi e x with
      | none=>
       simp only [ifR,qrr,qaa]
       cases Nat.beq v.flat.length n with
       | false=>rfl
       | true=>
        simp only [cond_true]
        cases zz cs o v.flat with
        | none=>rfl
        | some cs'=>simp only []; cases jw h b (.cells cs') <;> rfl
      | some t=>
       simp only [ifR,qya]
       cases (Nat.beq n 1 && v.isList && Nat.blt o cs.length) with
       | false=>rfl
       | true=>simp only [cond_true]; cases jw h b (.cells (cs.set o (v,true))) <;> rfl
  | _=>rfl
@[go_sem] theorem jkg {b:Bool} {z:Nat} {xs:List AVal}:AVal.isList (.list b z xs)=true:=rfl
@[go_sem] theorem jr7 {z:Nat} {f:α→AVal} {l:Option (List α)}:AVal.isList (sl z f l)=true:=by cases l <;> rfl
def qt8 (b:Bool) (off:Nat) (vs:List AVal) (l:Option (List (Nat × List AVal))):Option (List (Nat × List AVal)):=match b,l with
 | true,some r=>some ((off,vs)::r)
 | _,_=>none
@[go_sem] theorem jks {off:Nat} {vs:List AVal} {r:List (Nat × List AVal)}:qt8 true off vs (some r)=some ((off,vs)::r):=rfl
def qz1 (x:Option AVal) (off n:Nat) (l:Option (List (Nat × List AVal))):Option (List (Nat × List AVal)):=match x with
 | some v=>qt8 (Nat.beq v.flat.length n && v.flat.all qo) off v.flat l
 | none=>none
@[go_sem] theorem jkd {v:AVal} {off n:Nat} {l:Option (List (Nat × List AVal))}:qz1 (some v) off n l=qt8 (Nat.beq v.flat.length n && v.flat.all qo) off v.flat l:=rfl
@[go_sem] theorem je2:yv e []=some []:=rfl
@[go_sem] theorem jci {off n:Nat} {x:qv} {l:List (Nat × Nat × qv)}:yv e ((off,n,x)::l)=qz1 (qj e x) off n (yv e l):=by
 simp only [yv,qz1,qt8]
 cases qj e x with
 | none=>rfl
 | some v=>simp only []; cases (Nat.beq v.flat.length n && v.flat.all qo) <;> cases yv e l <;> rfl
def fillR (h:qk) (zero:List AVal) (ps:Option (List (Nat × List AVal))):Option ORes:=match ps with
 | some ps=>fillS h (qa3 zero ps)
 | none=>none
where fillS (h:qk) (r:Option (List AVal)):Option ORes:=match r with
 | some cs=>some ⟨.agg cs,false,none,h⟩
 | none=>none
@[go_sem] theorem jox {zero:List AVal} {ps:List (Nat × List AVal)}:fillR h zero (some ps)=fillR.fillS h (qa3 zero ps):=rfl
@[go_sem] theorem jp2 {cs:List AVal}:fillR.fillS h (some cs)=some ⟨.agg cs,false,none,h⟩:=rfl
@[go_sem] theorem jyt {zero:List AVal} {ps:List (Nat × Nat × qv)}:qe p xc h0 al e h (.build zero ps)=fillR h zero (yv e ps):=by
 simp only [qe,qr,fillR,fillR.fillS]
 cases yv e ps with
 | none=>rfl
 | some ps=>simp only []; cases qa3 zero ps <;> rfl
@[go_sem] theorem jsf {cs:List AVal}:qa3 cs []=some cs:=rfl
def q3t (b:Bool) (cs:List AVal) (off:Nat) (vs:List AVal) (l:List (Nat × List AVal)):Option (List AVal):=match b with
 | true=>qa3 (cs.take off++vs++cs.drop (off + vs.length)) l
 | false=>none
@[go_sem] theorem jq8 {cs:List AVal} {off:Nat} {vs:List AVal} {l:List (Nat × List AVal)}:q3t true cs off vs l=qa3 (cs.take off++vs++cs.drop (off + vs.length)) l:=rfl
@[go_sem] theorem jnq {cs:List AVal} {off:Nat} {vs:List AVal} {l:List (Nat × List AVal)}:qa3 cs ((off,vs)::l)=q3t (decide (off + vs.length≤cs.length)) cs off vs l:=by
 simp only [qa3,q3t,qae]
 cases decide (off + vs.length≤cs.length) <;> rfl
def elemsO (x:Option AVal) (i sz:Nat) (l:Option (List (Nat × AVal))):Option (List (Nat × AVal)):=match x with
 | some v=>elemsC (Nat.beq v.flat.length sz && v.flat.all qo) i v l
 | none=>none
where elemsC (b:Bool) (i:Nat) (v:AVal) (l:Option (List (Nat × AVal))):Option (List (Nat × AVal)):=match b,l with
 | true,some r=>some ((i,v)::r)
 | _,_=>none
@[go_sem] theorem jkb {v:AVal} {i sz:Nat} {l:Option (List (Nat × AVal))}:elemsO (some v) i sz l=elemsO.elemsC (Nat.beq v.flat.length sz && v.flat.all qo) i v l:=rfl
@[go_sem] theorem jj7 {v:AVal} {i:Nat} {r:List (Nat × AVal)}:elemsO.elemsC true i v (some r)=some ((i,v)::r):=rfl
@[go_sem] theorem jet {sz:Nat}:yp e sz []=some []:=rfl
@[go_sem] theorem jek {sz i:Nat} {x:qv} {l:List (Nat × qv)}:yp e sz ((i,x)::l)=elemsO (qj e x) i sz (yp e sz l):=by
 simp only [yp,elemsO,elemsO.elemsC]
 cases qj e x with
 | none=>rfl
 | some v=>simp only []; cases (Nat.beq v.flat.length sz && v.flat.all qo) <;> cases yp e sz l <;> rfl
@[go_sem] theorem jsy {xs:List AVal}:qc0 xs []=some xs:=rfl
def qy7 (b:Bool) (xs:List AVal) (i:Nat) (v:AVal) (l:List (Nat × AVal)):Option (List AVal):=match b with
 | true=>qc0 (xs.set i v) l
 | false=>none
@[go_sem] theorem jkn {xs:List AVal} {i:Nat} {v:AVal} {l:List (Nat × AVal)}:qy7 true xs i v l=qc0 (xs.set i v) l:=rfl
@[go_sem] theorem jne {xs:List AVal} {i:Nat} {v:AVal} {l:List (Nat × AVal)}:qc0 xs ((i,v)::l)=qy7 (decide (i < xs.length)) xs i v l:=by
 simp only [qc0,qy7,qbm]
 cases decide (i < xs.length) <;> rfl
def sliceR (sz:Nat) (h:qk) (xs:List AVal) (ps:Option (List (Nat × AVal))):Option ORes:=match ps with
 | some ps=>sliceS sz h (qc0 xs ps)
 | none=>none
where sliceS (sz:Nat) (h:qk) (r:Option (List AVal)):Option ORes:=match r with
 | some xs=>some ⟨.list false sz xs,true,none,h⟩
 | none=>none
@[go_sem] theorem jj6 {sz:Nat} {xs:List AVal} {ps:List (Nat × AVal)}:sliceR sz h xs (some ps)=sliceR.sliceS sz h (qc0 xs ps):=rfl
@[go_sem] theorem jjw {sz:Nat} {xs:List AVal}:sliceR.sliceS sz h (some xs)=some ⟨.list false sz xs,true,none,h⟩:=rfl
@[go_sem] theorem jg6 {sz len:Nat} {zero:List AVal} {ps:List (Nat × qv)}:qe p xc h0 al e h (.buildSlice sz len zero ps)=sliceR sz h (List.replicate len (bif Nat.beq sz 1 then zero.headD .undef else .agg zero)) (yp e sz ps):=by
 simp only [qe,qr,sliceR,sliceR.sliceS]
 cases yp e sz ps with
 | none=>rfl
 | some ps=>simp only []; cases qc0 (List.replicate len (bif Nat.beq sz 1 then zero.headD .undef else .agg zero)) ps <;> rfl
def appR (sz bytes:Nat) (h:qk) (own:Option Nat) (x y:Option AVal):Option ORes:=match x,y with
 | some (.list n sz' xs),some vy=>ifR (n || own.isSome) (appS sz bytes h own n sz' xs (yq sz vy))
 | _,_=>none
where appS (sz bytes:Nat) (h:qk) (own:Option Nat) (n:Bool) (sz':Nat) (xs:List AVal) (ys:Option (List AVal)):Option ORes:=match ys with
 | some ys=>ifR ((Nat.beq sz sz' || (xs.isEmpty && n)) && Nat.ble (xs.length + ys.length) 1073741824 && Nat.ble bytes 4096 && Nat.blt 0 sz) (some ⟨qfe n sz xs ys,true,own,h⟩)
 | none=>none
@[go_sem] theorem jtc {sz bytes:Nat} {own:Option Nat} {n:Bool} {sz':Nat} {xs:List AVal} {vy:AVal}:appR sz bytes h own (some (.list n sz' xs)) (some vy)=ifR (n || own.isSome) (appR.appS sz bytes h own n sz' xs (yq sz vy)):=rfl
@[go_sem] theorem js2 {sz bytes:Nat} {own:Option Nat} {n:Bool} {sz':Nat} {xs ys:List AVal}:appR.appS sz bytes h own n sz' xs (some ys)=ifR ((Nat.beq sz sz' || (xs.isEmpty && n)) && Nat.ble (xs.length + ys.length) 1073741824 && Nat.ble bytes 4096 && Nat.blt 0 sz) (some ⟨qfe n sz xs ys,true,own,h⟩):=rfl
@[go_sem] theorem jwb {sz bytes:Nat} {x y:qv}:qe p xc h0 al e h (.append none sz bytes x y)=appR sz bytes h (zi e x) (qj e x) (qj e y):=by
 simp only [qe,qr,appR,appR.appS]
 cases qj e x with
 | none=>rfl
 | some vx=>
  cases vx with
  | list n sz' xs=>
   cases qj e y with
   | none=>rfl
   | some vy=>
    simp only [ifR]
    cases (n || (zi e x).isSome) with
    | false=>rfl
    | true=>
     simp only [cond_true]
     cases yq sz vy with
     | none=>rfl
     | some ys=>simp only []; cases ((Nat.beq sz sz' || (xs.isEmpty && n)) && Nat.ble (xs.length + ys.length) 1073741824 && Nat.ble bytes 4096 && Nat.blt 0 sz) <;> rfl
  | _=>cases qj e y <;> rfl
@[go_sem] theorem q60 {z:Nat} {f:α→AVal} {l:Option (List α)}:yq z (sl z f l)=some ((l.getD []).map f):=by
 cases l <;> simp [yq,sl]
@[go_sem] theorem ju4 {z:Nat} {b:Bool} {xs:List AVal}:yq z (.list b z xs)=some xs:=by simp [yq]
@[go_sem] theorem jzh {z z':Nat} {b:Bool}:yq z (.list b z' [])=some []:=by simp [yq]
@[go_sem] theorem jkm {z:Nat} {xs ys:List AVal}:qfe false z xs ys=.list false z (xs++ys):=rfl
@[go_sem] theorem jpp {z:Nat} {b:Bool} {xs:List AVal} {y:AVal} {ys:List AVal}:qfe b z xs (y::ys)=.list false z (xs++y::ys):=by cases b <;> rfl
attribute [go_sem] Option.isSome_some Option.isSome_none Bool.or_true Bool.true_or List.isEmpty_nil List.isEmpty_cons Bool.and_false Bool.false_and
def qs7 (h:qk) (i:Nat) (x:Option AVal):Option ORes:=match x with
 | some (.tup vs)=>qam h vs[i]?
 | _=>none
@[go_sem] theorem jim {i:Nat} {vs:List AVal}:qs7 h i (some (.tup vs))=qam h vs[i]?:=rfl
@[go_sem] theorem jtd {i:Nat} {x:qv}:qe p xc h0 al e h (.extract x i)=qs7 h i (qj e x):=by
 simp only [qe,qr,qs7]
 cases qj e x with
 | none=>rfl
 | some v=>cases v <;> rfl
def un1 (op:UnOp) (h:qk) (x:Option AVal):Option ORes:=match x with
 | some v=>qam h (qku op v)
 | none=>none
@[go_sem] theorem jux {op:UnOp} {v:AVal}:un1 op h (some v)=qam h (qku op v):=rfl
@[go_sem] theorem j0s {op:UnOp} {x:qv}:qe p xc h0 al e h (.un op x)=un1 op h (qj e x):=by
 simp only [qe,qr,un1]
 cases qj e x <;> rfl
@[go_sem] theorem jzz {b:Bool}:qku .not (.bool b)=some (.bool (!b)):=rfl
@[go_sem] theorem jzn {k:IntKind} {n:Int}:qku .neg (.int k n)=some (.int k (qg k (0 - n))):=rfl
def q92 (neq:Bool) (h:qk) (x y:Option AVal):Option ORes:=match x,y with
 | some (.bool a),some (.bool b)=>val h (.bool (bif neq then !(a == b) else a == b))
 | _,_=>none
@[go_sem] theorem jsi {neq a b:Bool}:q92 neq h (some (.bool a)) (some (.bool b))=some ⟨.bool (bif neq then !(a == b) else a == b),false,none,h⟩:=rfl
@[go_sem] theorem jz6 {neq:Bool} {x y:qv}:qe p xc h0 al e h (.beq neq x y)=q92 neq h (qj e x) (qj e y):=by
 simp only [qe,qr,q92]
 cases qj e x with
 | none=>rfl
 | some v=>cases v <;> cases qj e y <;> rfl
def qvz (f:Fn) (h:qk) (a b:Option (List AVal)):Option ORes:=match a,b with
 | some a,some b=>val h (.fn f a b)
 | _,_=>none
@[go_sem] theorem jh7 {f:Fn} {a b:List AVal}:qvz f h (some a) (some b)=some ⟨.fn f a b,false,none,h⟩:=rfl
@[go_sem] theorem jw3 {f:Fn} {a b:List qv}:qe p xc h0 al e h (.mkfunc f a b)=qvz f h (kj e a) (kj e b):=by
 simp only [qe,qr,qvz]
 cases kj e a <;> cases kj e b <;> rfl
def mxR (f:AVal→AVal→Option AVal) (h:qk) (l:Option (List AVal)):Option ORes:=match l with
 | some (v::vs)=>qam h (qc3 f v vs)
 | _=>none
@[go_sem] theorem jua {f:AVal→AVal→Option AVal} {v:AVal} {vs:List AVal}:mxR f h (some (v::vs))=qam h (qc3 f v vs):=rfl
@[go_sem] theorem j0r {l:List qv}:qe p xc h0 al e h (.mx l)=mxR max2 h (kj e l):=by
 simp only [qe,qr,mxR]
 cases kj e l with
 | none=>rfl
 | some vs=>cases vs <;> rfl
@[go_sem] theorem j0u {l:List qv}:qe p xc h0 al e h (.mn l)=mxR min2 h (kj e l):=by
 simp only [qe,qr,mxR]
 cases kj e l with
 | none=>rfl
 | some vs=>cases vs <;> rfl
def q3x (f:AVal→AVal→Option AVal) (x:Option AVal) (l:List AVal):Option AVal:=match x with
 | some z=>qc3 f z l
 | none=>none
@[go_sem] theorem jqn {f:AVal→AVal→Option AVal} {x:AVal} {l:List AVal}:q3x f (some x) l=qc3 f x l:=rfl
@[go_sem] theorem js5 {f:AVal→AVal→Option AVal} {x:AVal}:qc3 f x []=some x:=rfl
@[go_sem] theorem jm6 {f:AVal→AVal→Option AVal} {x y:AVal} {l:List AVal}:qc3 f x (y::l)=q3x f (f x y) l:=by
 simp only [qc3,q3x]; rfl
@[go_sem] theorem jxx {k:IntKind} {x y:Int}:max2 (.int k x) (.int k y)=some (.int k (max x y)):=by
 simp only [max2,decide_true,cond_true]
 congr 2
 by_cases h:y > x
 ·rw [if_pos h]; omega
 ·rw [if_neg h]; omega
@[go_sem] theorem jun {k:IntKind} {x y:Int}:min2 (.int k x) (.int k y)=some (.int k (min x y)):=by
 simp only [min2,decide_true,cond_true]
 congr 2
 by_cases h:y < x
 ·rw [if_pos h]; omega
 ·rw [if_neg h]; omega
def q0t (k:Nat) (neq:Bool) (h:qk) (x:Option AVal):Option ORes:=match k,x with
  | 0,some (.list n _ _)=>val h (.bool (bif neq then !n else n))
  | 0,some (.ms ..)=>val h (.bool neq)
  | 1,some .nilptr=>val h (.bool (!neq))
  | 1,some (.ptr ..)=>val h (.bool neq)
  | 1,some (.vptr ..)=>val h (.bool neq)
  | 2,some .nilmap=>val h (.bool (!neq))
  | 2,some (.map ..)=>val h (.bool neq)
  | 3,some .nilfn=>val h (.bool (!neq))
  | 3,some (.fn ..)=>val h (.bool neq)
  | _,_=>none
@[go_sem] theorem jy0 {k:Nat} {neq:Bool} {x:qv}:qe p xc h0 al e h (.nilEq k neq x)=q0t k neq h (qj e x):=rfl
@[go_sem] theorem jpc {neq n:Bool} {z:Nat} {xs:List AVal}:q0t 0 neq h (some (.list n z xs))=some ⟨.bool (bif neq then !n else n),false,none,h⟩:=rfl
@[go_sem] theorem jty {n:Nat} {k:IntKind} {i:Int}:below n (.int k i)=true:=rfl
@[go_sem] theorem jrq {n:Nat} {b:Bool}:below n (.bool b)=true:=rfl
@[go_sem] theorem jsg {n:Nat} {s:List UInt8}:below n (.str s)=true:=rfl
@[go_sem] theorem jlb {n:Nat} {b:Bool} {z:Nat} {xs:List AVal}:below n (.list b z xs)=jq n xs:=by simp only [below]
@[go_sem] theorem js9 {n:Nat} {xs:List AVal}:below n (.agg xs)=jq n xs:=by simp only [below]
@[go_sem] theorem jts {n:Nat} {xs:List AVal}:below n (.tup xs)=jq n xs:=by simp only [below]
@[go_sem] theorem jti {n b o:Nat}:below n (.ptr b o)=decide (b < n):=by simp only [below,qbm]
@[go_sem] theorem jth {n b:Nat}:below n (.map b)=decide (b < n):=by simp only [below,qbm]
@[go_sem] theorem jvm {n k:Nat} {a b:List AVal}:below n (.fn (.func k) a b)=(jq n a && jq n b):=by simp only [below]
@[go_sem] theorem jmc {n:Nat}:jq n []=true:=by simp only [jq]
@[go_sem] theorem q1n {n:Nat} {x:AVal} {xs:List AVal}:jq n (x::xs)=(below n x && jq n xs):=by simp only [jq]
@[go_sem] theorem jle {n:Nat} {i:Int}:below n (qm i)=true:=rfl
@[go_sem] theorem jm3 {n z:Nat} {l:Option (List Int)}:below n (sl z qm l)=true:=qdf fun _=>rfl
theorem qth {n:Nat} {f:α→AVal} (hf:∀ x,below n (f x)=true):∀ l:List α,jq n (l.map f)=true
 | []=>rfl
 | x::l=>by rw [List.map_cons,q1n,hf,qth hf l]; rfl
@[go_sem] theorem jkz {n:Nat} {l:List Int}:jq n (l.map qm)=true:=qth (fun _=>rfl) l
@[go_sem] theorem jyy {k:IntKind} {i:Int}:ku h (.int k i)=some (.int k i):=rfl
@[go_sem] theorem jxn {b:Bool}:ku h (.bool b)=some (.bool b):=rfl
@[go_sem] theorem jyz {s:List UInt8}:ku h (.str s)=some (.str s):=rfl
@[go_sem] theorem jx4 {b:Bool} {z:Nat} {xs:List AVal}:ku h (.list b z xs)=some (.list b z xs):=rfl
@[go_sem] theorem jfe {z:Nat} {f:α→AVal} {l:Option (List α)}:ku h (sl z f l)=some (sl z f l):=by cases l <;> rfl
@[go_sem] theorem juc:qac h []=some []:=rfl
@[go_sem] theorem jsp {v:AVal} {vs:List AVal}:qac h (v::vs)=qd8 (ku h v) (qac h vs):=by
 simp only [qac,qd8]
 cases ku h v with
 | none=>rfl
 | some x=>cases qac h vs <;> rfl
def q45 (l:Option (List AVal)):Option AVal:=match l with
 | some xs=>some (.agg xs)
 | none=>none
@[go_sem] theorem jsu {xs:List AVal}:q45 (some xs)=some (.agg xs):=rfl
@[go_sem] theorem jwp {cs:List AVal}:freezeR h (.agg cs)=q45 (qac h cs):=by
 simp only [freezeR,q45]
 cases qac h cs <;> rfl
@[go_sem] theorem juk {k:IntKind} {i:Int}:freezeR h (.int k i)=some (.int k i):=rfl
@[go_sem] theorem jr3 {b:Bool}:freezeR h (.bool b)=some (.bool b):=rfl
@[go_sem] theorem jx6 {s:List UInt8}:freezeR h (.str s)=some (.str s):=rfl
@[go_sem] theorem jst {b:Bool} {z:Nat} {xs:List AVal}:freezeR h (.list b z xs)=some (.list b z xs):=rfl
@[go_sem] theorem jyu {z:Nat} {f:α→AVal} {l:Option (List α)}:freezeR h (sl z f l)=some (sl z f l):=by cases l <;> rfl
def jaa (l:Option (List AVal)):Option AVal:=match l with
 | some xs=>some (.tup xs)
 | none=>none
@[go_sem] theorem jsc {xs:List AVal}:jaa (some xs)=some (.tup xs):=rfl
@[go_sem] theorem jvz {cs:List AVal}:freezeR h (.tup cs)=jaa (freezeR.freezeT h cs):=by
 simp only [freezeR,jaa]
 cases freezeR.freezeT h cs <;> rfl
@[go_sem] theorem jv7:freezeR.freezeT h []=some []:=rfl
@[go_sem] theorem jvh {cs vs:List AVal}:freezeR.freezeT h (.agg cs::vs)=qd8 (q45 (qac h cs)) (freezeR.freezeT h vs):=by
 rw [freezeR.freezeT]
 cases qac h cs with
 | none=>rfl
 | some x=>cases freezeR.freezeT h vs <;> rfl
theorem qjf {v:AVal} {vs:List AVal} (hv:v.isAgg=false):freezeR.freezeT h (v::vs)=qd8 (ku h v) (freezeR.freezeT h vs):=by
 have:∀ cs,v ≠ .agg cs:=fun cs hc=>by rw [hc] at hv; cases hv
 rw [freezeR.freezeT]
 ·cases ku h v with
  | none=>rfl
  | some x=>cases freezeR.freezeT h vs <;> rfl
 ·exact this
@[go_sem] theorem jx0 {k:IntKind} {i:Int} {vs:List AVal}:freezeR.freezeT h (.int k i::vs)=qd8 (some (.int k i)) (freezeR.freezeT h vs):=qjf rfl
@[go_sem] theorem jr1 {b:Bool} {vs:List AVal}:freezeR.freezeT h (.bool b::vs)=qd8 (some (.bool b)) (freezeR.freezeT h vs):=qjf rfl
@[go_sem] theorem jyd {s:List UInt8} {vs:List AVal}:freezeR.freezeT h (.str s::vs)=qd8 (some (.str s)) (freezeR.freezeT h vs):=qjf rfl
@[go_sem] theorem jsx {b:Bool} {z:Nat} {xs vs:List AVal}:freezeR.freezeT h (.list b z xs::vs)=qd8 (some (.list b z xs)) (freezeR.freezeT h vs):=qjf rfl
@[go_sem] theorem jze {z:Nat} {f:α→AVal} {l:Option (List α)} {vs:List AVal}:freezeR.freezeT h (sl z f l::vs)=qd8 (some (sl z f l)) (freezeR.freezeT h vs):=by
 rw [qjf (by cases l <;> rfl),jfe]
attribute [go_sem] List.contains_cons List.contains_nil
@[go_sem] theorem jza {a b:Nat}:(a == b)=decide (a=b):=by
 by_cases hab:a=b <;> simp [hab]
def qtr (agg:Bool) (c:Option (AVal × Bool)) (vs:Option (List AVal)):Option (AVal × Bool):=match vs,agg with
 | some vs,true=>some (.agg vs,false)
 | some _,false=>c
 | none,_=>none
@[go_sem] theorem jrw {c:Option (AVal × Bool)} {vs:List AVal}:qtr true c (some vs)=some (.agg vs,false):=rfl
@[go_sem] theorem jru {c:Option (AVal × Bool)} {vs:List AVal}:qtr false c (some vs)=c:=rfl
def qyc (agg:Bool) (o n:Nat) (cs:Option (List (AVal × Bool))):Option (AVal × Bool):=match cs with
 | some cs=>qtr agg cs[o]? (yf cs o n)
 | none=>none
@[go_sem] theorem jlz {agg:Bool} {o n:Nat} {cs:List (AVal × Bool)}:qyc agg o n (some cs)=qtr agg cs[o]? (yf cs o n):=rfl
def q49 (agg:Bool) (n:Nat) (h:qk) (x:Option (AVal × Bool)):Option (AVal × Bool):=match x with
 | some (.ptr b o,_)=>qyc agg o n (jk h b)
 | _=>none
@[go_sem] theorem jrt {agg:Bool} {n b o:Nat} {w:Bool}:q49 agg n h (some (.ptr b o,w))=qyc agg o n (jk h b):=rfl
@[go_sem] theorem jew {t n:Nat} {agg:Bool}:qbv ⟨e,h⟩ (.cell t agg n)=q49 agg n h (look t e):=by
 simp only [qbv,q49]
 cases look t e with
 | none=>rfl
 | some x=>
  obtain ⟨v,w⟩:=x
  cases v with
  | ptr b o=>
   simp only [qyc]
   cases jk h b with
   | none=>rfl
   | some cs=>
    simp only [qtr]
    cases yf cs o n with
    | none=>rfl
    | some vs=>cases agg with
     | true=>rfl
     | false=>simp only [cond_false]; cases cs[o]? <;> rfl
  | _=>rfl
theorem qch {k:Nat} {args:List AVal} {v v':AVal} {o:Bool} (hp:p.prims k=none) (hc:jg p xc k args []=some (v,o,h)) (hz:freezeR h v=some v') (hv:below 0 v'=true):qf p xc k args=some (v',o && v.isList):=by
 unfold qf
 rw [hp]
 simp only [hc,hz,qc1,hv,cond_true]
end
end Go.Abs
