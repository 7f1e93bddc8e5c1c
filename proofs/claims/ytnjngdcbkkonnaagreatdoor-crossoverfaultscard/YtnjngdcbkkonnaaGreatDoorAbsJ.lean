/-
  Equations of the executor, second part: boxes, structs, further operations; calls as equations.
-/
import Derived.Test.YtnjngdcbkkonnaaGreatDoorAbsI
set_option linter.unusedVariables false
set_option linter.unusedSimpArgs false
namespace Go.Abs
section
variable {p:js} {xc:XC} {h0:Nat} {al:Option (List Nat)} {e:Env} {h:ql} {α:Type}
attribute [go_sem] List.getElem?_cons_zero List.getElem?_cons_succ List.getElem?_nil List.set_cons_zero List.set_cons_succ List.set_nil List.cons_append List.replicate_zero List.replicate_succ List.map_cons List.map_nil List.all_cons List.all_nil List.drop_zero List.drop_succ_cons List.take_zero List.take_succ_cons List.drop_nil List.take_nil Bool.and_true Bool.true_and Bool.or_false Bool.false_or Bool.and_self List.headD_cons List.foldl_cons List.foldl_nil List.flatMap_cons List.flatMap_nil
@[go_sem] theorem jud {k:IntKind} {n:Int}:qq (.int k n)=true:=rfl
@[go_sem] theorem jt3 {b:Bool}:qq (.bool b)=true:=rfl
@[go_sem] theorem jut {s:List UInt8}:qq (.str s)=true:=rfl
@[go_sem] theorem jt2 {b:Bool} {z:Nat} {xs:List AVal}:qq (.list b z xs)=true:=rfl
@[go_sem] theorem jve {b o n:Nat}:qq (.ms b o n)=true:=rfl
@[go_sem] theorem juq {b o:Nat}:qq (.ptr b o)=true:=rfl
@[go_sem] theorem jul {b:Nat}:qq (.map b)=true:=rfl
@[go_sem] theorem jn5:qq .nilptr=true:=rfl
@[go_sem] theorem jmo:qq .nilmap=true:=rfl
@[go_sem] theorem jqc:qq .nilfn=true:=rfl
@[go_sem] theorem jvf {f:Fn} {a b:List AVal}:qq (.fn f a b)=true:=rfl
@[go_sem] theorem jux {z:Nat} {f:α→AVal} {l:Option (List α)}:qq (sl z f l)=true:=by cases l <;> rfl
@[go_sem] theorem js2 {cs:List AVal}:AVal.flat (.agg cs)=cs:=rfl
@[go_sem] theorem jpf {k:IntKind} {n:Int}:AVal.flat (.int k n)=[.int k n]:=rfl
@[go_sem] theorem jn1 {b:Bool}:AVal.flat (.bool b)=[.bool b]:=rfl
@[go_sem] theorem jrr {s:List UInt8}:AVal.flat (.str s)=[.str s]:=rfl
@[go_sem] theorem jm3 {b:Bool} {z:Nat} {xs:List AVal}:AVal.flat (.list b z xs)=[.list b z xs]:=rfl
@[go_sem] theorem jti {z:Nat} {f:α→AVal} {l:Option (List α)}:AVal.flat (sl z f l)=[sl z f l]:=by cases l <;> rfl
@[go_sem] theorem jru {b o:Nat}:AVal.flat (.ptr b o)=[.ptr b o]:=rfl
@[go_sem] theorem jrm {b:Nat}:AVal.flat (.map b)=[.map b]:=rfl
@[go_sem] theorem jtv {f:Fn} {a b:List AVal}:AVal.flat (.fn f a b)=[.fn f a b]:=rfl
@[go_sem] theorem jt1 {b o n:Nat}:AVal.flat (.ms b o n)=[.ms b o n]:=rfl
@[go_sem] theorem qob {a b:Nat}:Nat.beq a b=decide (a=b):=by
 cases h:Nat.beq a b with
 | true=>have:=Nat.eq_of_beq_eq_true h; simp [this]
 | false=>
  have:a ≠ b:=fun hh=>by subst hh; simp at h
  simp [this]
@[go_sem] theorem qaq {a b:Nat}:Nat.ble a b=decide (a≤b):=by
 cases h:Nat.ble a b with
 | true=>have:=Nat.le_of_ble_eq_true h; simp [this]
 | false=>
  have:¬ a≤b:=fun hh=>by rw [Nat.ble_eq_true_of_le hh] at h; cases h
  simp [this]
@[go_sem] theorem qcn {a b:Nat}:Nat.blt a b=decide (a < b):=by
 show Nat.ble (a + 1) b=_
 rw [qaq]; rfl
@[go_sem] theorem jm8 {b:Nat}:j9 h0 none b=true:=rfl
@[go_sem] theorem jtp:exl []=false:=rfl
@[go_sem] theorem jrq {k:Nat} {l:List Nat}:exl (k::l)=decide (1000≤k):=by simp only [exl,qaq]
@[go_sem] theorem js0 {k b:Nat} {l:List Nat}:exq h0 (k::l) b=cond (decide (k < 2000)) (decide (b=k - 1000) && decide (b < h0)) (decide (b=h0 + (k - 2000))):=by
 have e:∀ x y:Nat,Nat.beq x y=decide (x=y):=fun x y=>by
  cases h:Nat.beq x y with
  | true=>rw [Nat.eq_of_beq_eq_true h]; simp
  | false=>
   have:x ≠ y:=fun e=>by rw [e,Nat.beq_refl] at h; cases h
   simp [this]
 simp only [exq,qcn,e]
@[go_sem] theorem jgy {b:Nat} {l:List Nat}:j9 h0 (some l) b=cond (exl l) (exq h0 l b) (decide (b < h0) || l.contains (b - h0)):=by simp only [j9,qcn]
def qai (r:Option ql) (v:AVal):Option ORes:=match r with
 | some h'=>some ⟨v,false,none,h'⟩
 | none=>none
@[go_sem] theorem jmw {v:AVal}:qai (some h) v=some ⟨v,false,none,h⟩:=rfl
@[go_sem] theorem jnp {h0 r:Nat} {es:List (AVal × AVal)}:q0c h0 r h true (some es)=qai (newBox h0 h r (.map es)) (.map (h0 + r)):=rfl
def q62 (n:Nat) (h:ql) (b:Option ABox) (x:ABox):Option ql:=match b with
 | some .hole=>some (h.set n x)
 | _=>none
@[go_sem] theorem jmv {n:Nat} {x:ABox}:q62 n h (some .hole) x=some (h.set n x):=rfl
@[go_sem] theorem jnm {r:Nat} {x:ABox}:newBox h0 h r x=q62 (h0 + r) h h[h0 + r]? x:=by
 unfold newBox q62; rfl
def ifR (b:Bool) (r:Option ORes):Option ORes:=match b with
 | true=>r
 | false=>none
@[go_sem] theorem jpw {r:Option ORes}:ifR true r=r:=rfl
@[go_sem] theorem jtr {r:Nat} {z:List AVal}:qh p xc h0 al e h (.alloc r z)=ifR (z.all qq) (qai (newBox h0 h r (.cells (cellsOf z))) (.ptr (h0 + r) 0)):=by
 simp only [qh,qy,ifR]
 cases z.all qq with
 | false=>rfl
 | true=>simp only [cond_true,qai]; cases newBox h0 h r (.cells (cellsOf z)) <;> rfl
def q1c (n:Nat) (h:ql) (x:Option AVal):Option ORes:=match x with
 | some v=>ifR (Nat.beq v.flat.length n && v.flat.all qq) (some ⟨.vptr v,false,none,h⟩)
 | none=>none
@[go_sem] theorem jke {n:Nat} {v:AVal}:q1c n h (some v)=ifR (Nat.beq v.flat.length n && v.flat.all qq) (some ⟨.vptr v,false,none,h⟩):=rfl
@[go_sem] theorem juk {n:Nat} {x:qx}:qh p xc h0 al e h (.vbox n x)=q1c n h (qk e x):=by
 simp only [qh,qt,q1c]
 cases qk e x with
 | none=>rfl
 | some v=>
  simp only [ifR]
  cases (Nat.beq v.flat.length n && v.flat.all qq) <;> rfl
def q6p (h0 r n:Nat) (h:ql) (x:Option AVal):Option ORes:=match x with
 | some v=>ifR (Nat.beq v.flat.length n && v.flat.all qq) (qai (newBox h0 h r (.cells (cellsOf v.flat))) (.ptr (h0 + r) 0))
 | none=>none
@[go_sem] theorem jof {r n:Nat} {v:AVal}:q6p h0 r n h (some v)=ifR (Nat.beq v.flat.length n && v.flat.all qq) (qai (newBox h0 h r (.cells (cellsOf v.flat))) (.ptr (h0 + r) 0)):=rfl
@[go_sem] theorem juy {r n:Nat} {x:qx}:qh p xc h0 al e h (.box r n x)=q6p h0 r n h (qk e x):=by
 simp only [qh,qy,q6p]
 cases qk e x with
 | none=>rfl
 | some v=>
  simp only [ifR,qai]
  cases (Nat.beq v.flat.length n && v.flat.all qq) with
  | false=>rfl
  | true=>simp only [cond_true]; cases newBox h0 h r (.cells (cellsOf v.flat)) <;> rfl
@[go_sem] theorem q81 {r:Nat}:qh p xc h0 al e h (.mkmap r)=qai (newBox h0 h r (.map [])) (.map (h0 + r)):=by
 simp only [qh,qy,qai]
 cases newBox h0 h r (.map []) <;> rfl
@[go_sem] theorem jfh:cellsOf []=[]:=rfl
@[go_sem] theorem jbx {v:AVal} {vs:List AVal}:cellsOf (v::vs)=(v,false)::cellsOf vs:=rfl
def qer (agg:Bool) (h:ql) (r:Option AVal):Option ORes:=match r with
 | some v=>bif Bool.xor agg v.isAgg then none else val h (.vptr v)
 | none=>none
def qeg (agg:Bool) (off n:Nat) (h:ql) (x:Option AVal):Option ORes:=match x with
 | some (.ptr b o)=>val h (.ptr b (o + off))
 | some (.vptr (.agg cs))=>qer agg h (part agg cs off n)
 | _=>none
@[go_sem] theorem jac {agg:Bool} {off n b o:Nat}:qeg agg off n h (some (.ptr b o))=some ⟨.ptr b (o + off),false,none,h⟩:=rfl
@[go_sem] theorem q9h {agg:Bool} {off n:Nat} {cs:List AVal}:qeg agg off n h (some (.vptr (.agg cs)))=qer agg h (part agg cs off n):=rfl
@[go_sem] theorem jfy {agg:Bool} {off n:Nat} {x:qx}:qh p xc h0 al e h (.fieldAddr agg off n x)=qeg agg off n h (qk e x):=by
 simp only [qh,qt,qeg]
 cases qk e x with
 | none=>rfl
 | some v=>cases v with
  | vptr v=>cases v <;> rfl
  | _=>rfl
def juc (v:AVal):Prop:=v.isAgg=false
theorem jn3 {v:AVal} (hv:v.isAgg=false):qer false h (some v)=some ⟨.vptr v,false,none,h⟩:=by simp [qer,hv,val]
@[go_sem] theorem jod {k:IntKind} {n:Int}:qer false h (some (.int k n))=some ⟨.vptr (.int k n),false,none,h⟩:=rfl
@[go_sem] theorem joe {s:List UInt8}:qer false h (some (.str s))=some ⟨.vptr (.str s),false,none,h⟩:=rfl
@[go_sem] theorem jgl {b:Bool}:qer false h (some (.bool b))=some ⟨.vptr (.bool b),false,none,h⟩:=rfl
@[go_sem] theorem jq2 {z:Nat} {f:α→AVal} {l:Option (List α)}:qer false h (some (sl z f l))=some ⟨.vptr (sl z f l),false,none,h⟩:=by cases l <;> rfl
@[go_sem] theorem jmu {cs:List AVal}:qer true h (some (.agg cs))=some ⟨.vptr (.agg cs),false,none,h⟩:=rfl
@[go_sem] theorem jpc {cs:List AVal} {off n:Nat}:part false cs off n=cs[off]?:=rfl
def q1t (b:Bool) (cs:List AVal) (off n:Nat):Option AVal:=match b with
 | true=>some (.agg ((cs.drop off).take n))
 | false=>none
@[go_sem] theorem jlb {cs:List AVal} {off n:Nat}:q1t true cs off n=some (.agg ((cs.drop off).take n)):=rfl
@[go_sem] theorem jrb {cs:List AVal} {off n:Nat}:part true cs off n=q1t (decide (off + n≤cs.length)) cs off n:=by
 simp only [part,q1t,cond_true,qaq]
 cases decide (off + n≤cs.length) <;> rfl
@[go_sem] theorem jqb {z:Nat} {f:α→AVal} {l:Option (List α)}:qaz h0 al false 1 h (some (.vptr (sl z f l)))=some ⟨sl z f l,false,none,h⟩:=by cases l <;> rfl
def q41 (h:ql) (cs:List AVal) (b:Bool):Option ORes:=match b with
 | true=>some ⟨.agg cs,false,none,h⟩
 | false=>none
@[go_sem] theorem jnw {cs:List AVal}:q41 h cs true=some ⟨.agg cs,false,none,h⟩:=rfl
@[go_sem] theorem jlo {n:Nat} {cs:List AVal}:qaz h0 al true n h (some (.vptr (.agg cs)))=q41 h cs (decide (cs.length=n)):=by
 unfold q41
 by_cases hn:cs.length=n
 ·rw [q3l hn]; simp [hn]
 ·simp [qaz,AVal.isAgg,AVal.flat,hn,qob]
def qww (agg:Bool) (h:ql) (vs:Option (List AVal)):Option ORes:=match vs with
 | some vs=>bif agg then val h (.agg vs) else (match vs with
  | [v]=>val h v
  | _=>none)
 | none=>none
@[go_sem] theorem jqo {vs:List AVal}:qww true h (some vs)=some ⟨.agg vs,false,none,h⟩:=rfl
@[go_sem] theorem jp0 {v:AVal}:qww false h (some [v])=some ⟨v,false,none,h⟩:=rfl
def quy (b:Option ABox):Option (List (AVal × Bool)):=match b with
 | some (.cells cs)=>some cs
 | _=>none
@[go_sem] theorem jew {cs:List (AVal × Bool)}:quy (some (.cells cs))=some cs:=rfl
@[go_sem] theorem jfr {b:Nat}:jp h b=quy h[b]?:=by unfold jp quy; rfl
def ldC (b:Bool) (cs:List (AVal × Bool)) (off n:Nat):Option (List AVal):=match b with
 | true=>some (((cs.drop off).take n).map (·.1))
 | false=>none
@[go_sem] theorem jrv {cs:List (AVal × Bool)} {off n:Nat}:ldC true cs off n=some (((cs.drop off).take n).map (·.1)):=rfl
@[go_sem] theorem jeo {cs:List (AVal × Bool)} {off n:Nat}:yy cs off n=ldC (decide (off + n≤cs.length)) cs off n:=by
 simp only [yy,ldC,qaq]
 cases decide (off + n≤cs.length) <;> rfl
def q5u (agg:Bool) (o n:Nat) (h:ql) (cs:Option (List (AVal × Bool))):Option ORes:=match cs with
 | some cs=>qww agg h (yy cs o n)
 | none=>none
@[go_sem] theorem jn0 {agg:Bool} {o n:Nat} {cs:List (AVal × Bool)}:q5u agg o n h (some cs)=qww agg h (yy cs o n):=rfl
@[go_sem] theorem jnd {agg:Bool} {n b o:Nat}:qaz h0 al agg n h (some (.ptr b o))=ifR (j9 h0 al b) (q5u agg o n h (jp h b)):=by
 simp only [qaz,ifR,q5u,qww]
 cases j9 h0 al b with
 | false=>rfl
 | true=>
  simp only [cond_true]
  cases jp h b with
  | none=>rfl
  | some cs=>simp only []; cases yy cs o n <;> rfl
def qug (r:Option ql) (v:AVal) (w:Bool):Option ORes:=match r with
 | some h'=>some ⟨v,w,none,h'⟩
 | none=>none
@[go_sem] theorem jjd {v:AVal} {w:Bool}:qug (some h) v w=some ⟨v,w,none,h⟩:=rfl
def qut (h:ql) (b o:Nat) (cs:List (AVal × Bool)) (x:Option (AVal × Bool)):Option ORes:=match x with
 | some (v,w)=>qug (j0 h b (.cells (cs.set o (v,false)))) v w
 | none=>none
@[go_sem] theorem jiy {b o:Nat} {cs:List (AVal × Bool)} {v:AVal} {w:Bool}:qut h b o cs (some (v,w))=qug (j0 h b (.cells (cs.set o (v,false)))) v w:=rfl
def quu (h:ql) (b o:Nat) (cs:Option (List (AVal × Bool))):Option ORes:=match cs with
 | some cs=>qut h b o cs cs[o]?
 | none=>none
@[go_sem] theorem jl7 {b o:Nat} {cs:List (AVal × Bool)}:quu h b o (some cs)=qut h b o cs cs[o]?:=rfl
def qno (h0:Nat) (al:Option (List Nat)) (off:Option Nat) (h:ql) (x:Option AVal):Option ORes:=match x with
 | some (.ptr b o)=>ifR (j9 h0 al b && qfe off o) (quu h b o (jp h b))
 | _=>none
@[go_sem] theorem jap {off:Option Nat} {b o:Nat}:qno h0 al off h (some (.ptr b o))=ifR (j9 h0 al b && qfe off o) (quu h b o (jp h b)):=rfl
@[go_sem] theorem jgb {o:Nat}:qfe none o=true:=rfl
@[go_sem] theorem jlv {a o:Nat}:qfe (some a) o=decide (a=o):=by simp only [qfe,qob]
@[go_sem] theorem jjx {off:Option Nat} {x:qx}:qh p xc h0 al e h (.loadTake off x)=qno h0 al off h (qk e x):=by
 simp only [qh,qy,qno]
 cases qk e x with
 | none=>rfl
 | some v=>cases v with
  | ptr b o=>
   simp only [ifR,quu,qut,qug]
   cases (j9 h0 al b && qfe off o) with
   | false=>rfl
   | true=>
    simp only [cond_true]
    cases jp h b with
    | none=>rfl
    | some cs=>
     simp only []
     cases cs[o]? with
     | none=>rfl
     | some c=>
      obtain ⟨v,w⟩:=c
      simp only []
      cases j0 h b (.cells (cs.set o (v,false))) <;> rfl
  | _=>rfl
def q5q (b:Bool) (n:Nat) (x:ABox) (h:ql):Option ql:=match b with
 | true=>some (h.set n x)
 | false=>none
@[go_sem] theorem jop {n:Nat} {x:ABox}:q5q true n x h=some (h.set n x):=rfl
@[go_sem] theorem jmt {b:Nat} {x:ABox}:j0 h b x=q5q (decide (b < h.length)) b x h:=by
 simp only [j0,q5q,qcn]
 cases decide (b < h.length) <;> rfl
def stC (b:Bool) (cs:List (AVal × Bool)) (off:Nat) (vs:List AVal):Option (List (AVal × Bool)):=match b with
 | true=>some (cs.take off++vs.map (·,false)++cs.drop (off + vs.length))
 | false=>none
@[go_sem] theorem jrj {cs:List (AVal × Bool)} {off:Nat} {vs:List AVal}:stC true cs off vs=some (cs.take off++vs.map (·,false)++cs.drop (off + vs.length)):=rfl
@[go_sem] theorem jaf {cs:List (AVal × Bool)} {off:Nat} {vs:List AVal}:kn cs off vs=stC (decide (off + vs.length≤cs.length) && vs.all qq) cs off vs:=by
 simp only [kn,stC,qaq]
 cases (decide (off + vs.length≤cs.length) && vs.all qq) <;> rfl
def jvk (e:Env) (x:qx):Option Nat:=zj e x
def q1a (t:Nat) (x:Option (AVal × Bool)):Option Nat:=match x with
 | some (_,true)=>some t
 | _=>none
@[go_sem] theorem jnl {t:Nat} {v:AVal}:q1a t (some (v,true))=some t:=rfl
@[go_sem] theorem jjw {t:Nat} {v:AVal}:q1a t (some (v,false))=none:=rfl
@[go_sem] theorem jnc {t:Nat}:zj e (.tmp t)=q1a t (jn t e):=by
 simp only [zj,q1a]; rfl
@[go_sem] theorem jff {v:AVal}:zj e (.const v)=none:=rfl
def qn8 (h:ql) (b:Nat) (cs:Option (List (AVal × Bool))):Option ORes:=match cs with
 | some cs'=>qai (j0 h b (.cells cs')) .undef
 | none=>none
@[go_sem] theorem jde {b:Nat} {cs:List (AVal × Bool)}:qn8 h b (some cs)=qai (j0 h b (.cells cs)) .undef:=rfl
def qum (t:Nat) (r:Option ql):Option ORes:=match r with
 | some h'=>some ⟨.undef,false,some t,h'⟩
 | none=>none
@[go_sem] theorem jiw {t:Nat}:qum t (some h)=some ⟨.undef,false,some t,h⟩:=rfl
def qm0 (n:Nat) (h:ql) (b o:Nat) (v:AVal) (own:Option Nat) (cs:Option (List (AVal × Bool))):Option ORes:=match cs,own with
 | some cs,some t=>ifR (Nat.beq n 1 && v.isList && Nat.blt o cs.length) (qum t (j0 h b (.cells (cs.set o (v,true)))))
 | some cs,none=>ifR (Nat.beq v.flat.length n) (qn8 h b (kn cs o v.flat))
 | none,_=>none
@[go_sem] theorem jls {n b o t:Nat} {v:AVal} {cs:List (AVal × Bool)}:qm0 n h b o v (some t) (some cs)=ifR (Nat.beq n 1 && v.isList && Nat.blt o cs.length) (qum t (j0 h b (.cells (cs.set o (v,true))))):=rfl
@[go_sem] theorem jdp {n b o:Nat} {v:AVal} {cs:List (AVal × Bool)}:qm0 n h b o v none (some cs)=ifR (Nat.beq v.flat.length n) (qn8 h b (kn cs o v.flat)):=rfl
def qxh (h0:Nat) (al:Option (List Nat)) (n:Nat) (h:ql) (own:Option Nat) (a x:Option AVal):Option ORes:=match a,x with
 | some (.ptr b o),some v=>ifR (j9 h0 al b) (qm0 n h b o v own (jp h b))
 | _,_=>none
@[go_sem] theorem jmf {n b o:Nat} {own:Option Nat} {v:AVal}:qxh h0 al n h own (some (.ptr b o)) (some v)=ifR (j9 h0 al b) (qm0 n h b o v own (jp h b)):=rfl
@[go_sem] theorem jtz {n:Nat} {a x:qx}:qh p xc h0 al e h (.store n a x)=qxh h0 al n h (zj e x) (qk e a) (qk e x):=by
 simp only [qh,qy,qxh]
 cases qk e a with
 | none=>rfl
 | some va=>
  cases va with
  | ptr b o=>
   cases qk e x with
   | none=>rfl
   | some v=>
    simp only [ifR]
    cases j9 h0 al b with
    | false=>rfl
    | true=>
     simp only [cond_true]
     cases jp h b with
     | none=>rfl
     | some cs=>
      simp only [qm0]
      cases zj e x with
      | none=>
       simp only [ifR,qn8,qai]
       cases Nat.beq v.flat.length n with
       | false=>rfl
       | true=>
        simp only [cond_true]
        cases kn cs o v.flat with
        | none=>rfl
        | some cs'=>simp only []; cases j0 h b (.cells cs') <;> rfl
      | some t=>
       simp only [ifR,qum]
       cases (Nat.beq n 1 && v.isList && Nat.blt o cs.length) with
       | false=>rfl
       | true=>simp only [cond_true]; cases j0 h b (.cells (cs.set o (v,true))) <;> rfl
  | _=>rfl
@[go_sem] theorem je1 {b:Bool} {z:Nat} {xs:List AVal}:AVal.isList (.list b z xs)=true:=rfl
@[go_sem] theorem jmr {z:Nat} {f:α→AVal} {l:Option (List α)}:AVal.isList (sl z f l)=true:=by cases l <;> rfl
def qru (b:Bool) (off:Nat) (vs:List AVal) (l:Option (List (Nat × List AVal))):Option (List (Nat × List AVal)):=match b,l with
 | true,some r=>some ((off,vs)::r)
 | _,_=>none
@[go_sem] theorem jfv {off:Nat} {vs:List AVal} {r:List (Nat × List AVal)}:qru true off vs (some r)=some ((off,vs)::r):=rfl
def qw6 (x:Option AVal) (off n:Nat) (l:Option (List (Nat × List AVal))):Option (List (Nat × List AVal)):=match x with
 | some v=>qru (Nat.beq v.flat.length n && v.flat.all qq) off v.flat l
 | none=>none
@[go_sem] theorem jf1 {v:AVal} {off n:Nat} {l:Option (List (Nat × List AVal))}:qw6 (some v) off n l=qru (Nat.beq v.flat.length n && v.flat.all qq) off v.flat l:=rfl
@[go_sem] theorem jai:yu e []=some []:=rfl
@[go_sem] theorem q9t {off n:Nat} {x:qx} {l:List (Nat × Nat × qx)}:yu e ((off,n,x)::l)=qw6 (qk e x) off n (yu e l):=by
 simp only [yu,qw6,qru]
 cases qk e x with
 | none=>rfl
 | some v=>simp only []; cases (Nat.beq v.flat.length n && v.flat.all qq) <;> cases yu e l <;> rfl
def fillR (h:ql) (zero:List AVal) (ps:Option (List (Nat × List AVal))):Option ORes:=match ps with
 | some ps=>fillS h (qa0 zero ps)
 | none=>none
where fillS (h:ql) (r:Option (List AVal)):Option ORes:=match r with
 | some cs=>some ⟨.agg cs,false,none,h⟩
 | none=>none
@[go_sem] theorem jh2 {zero:List AVal} {ps:List (Nat × List AVal)}:fillR h zero (some ps)=fillR.fillS h (qa0 zero ps):=rfl
@[go_sem] theorem jh4 {cs:List AVal}:fillR.fillS h (some cs)=some ⟨.agg cs,false,none,h⟩:=rfl
@[go_sem] theorem jts {zero:List AVal} {ps:List (Nat × Nat × qx)}:qh p xc h0 al e h (.build zero ps)=fillR h zero (yu e ps):=by
 simp only [qh,qt,fillR,fillR.fillS]
 cases yu e ps with
 | none=>rfl
 | some ps=>simp only []; cases qa0 zero ps <;> rfl
@[go_sem] theorem jm6 {cs:List AVal}:qa0 cs []=some cs:=rfl
def q06 (b:Bool) (cs:List AVal) (off:Nat) (vs:List AVal) (l:List (Nat × List AVal)):Option (List AVal):=match b with
 | true=>qa0 (cs.take off++vs++cs.drop (off + vs.length)) l
 | false=>none
@[go_sem] theorem jhl {cs:List AVal} {off:Nat} {vs:List AVal} {l:List (Nat × List AVal)}:q06 true cs off vs l=qa0 (cs.take off++vs++cs.drop (off + vs.length)) l:=rfl
@[go_sem] theorem jkn {cs:List AVal} {off:Nat} {vs:List AVal} {l:List (Nat × List AVal)}:qa0 cs ((off,vs)::l)=q06 (decide (off + vs.length≤cs.length)) cs off vs l:=by
 simp only [qa0,q06,qaq]
 cases decide (off + vs.length≤cs.length) <;> rfl
def elemsO (x:Option AVal) (i sz:Nat) (l:Option (List (Nat × AVal))):Option (List (Nat × AVal)):=match x with
 | some v=>elemsC (Nat.beq v.flat.length sz && v.flat.all qq) i v l
 | none=>none
where elemsC (b:Bool) (i:Nat) (v:AVal) (l:Option (List (Nat × AVal))):Option (List (Nat × AVal)):=match b,l with
 | true,some r=>some ((i,v)::r)
 | _,_=>none
@[go_sem] theorem je9 {v:AVal} {i sz:Nat} {l:Option (List (Nat × AVal))}:elemsO (some v) i sz l=elemsO.elemsC (Nat.beq v.flat.length sz && v.flat.all qq) i v l:=rfl
@[go_sem] theorem je5 {v:AVal} {i:Nat} {r:List (Nat × AVal)}:elemsO.elemsC true i v (some r)=some ((i,v)::r):=rfl
@[go_sem] theorem jam {sz:Nat}:ym e sz []=some []:=rfl
@[go_sem] theorem q9w {sz i:Nat} {x:qx} {l:List (Nat × qx)}:ym e sz ((i,x)::l)=elemsO (qk e x) i sz (ym e sz l):=by
 simp only [ym,elemsO,elemsO.elemsC]
 cases qk e x with
 | none=>rfl
 | some v=>simp only []; cases (Nat.beq v.flat.length sz && v.flat.all qq) <;> cases ym e sz l <;> rfl
@[go_sem] theorem jor {xs:List AVal}:qcu xs []=some xs:=rfl
def qwt (b:Bool) (xs:List AVal) (i:Nat) (v:AVal) (l:List (Nat × AVal)):Option (List AVal):=match b with
 | true=>qcu (xs.set i v) l
 | false=>none
@[go_sem] theorem jex {xs:List AVal} {i:Nat} {v:AVal} {l:List (Nat × AVal)}:qwt true xs i v l=qcu (xs.set i v) l:=rfl
@[go_sem] theorem jhm {xs:List AVal} {i:Nat} {v:AVal} {l:List (Nat × AVal)}:qcu xs ((i,v)::l)=qwt (decide (i < xs.length)) xs i v l:=by
 simp only [qcu,qwt,qcn]
 cases decide (i < xs.length) <;> rfl
def sliceR (sz:Nat) (h:ql) (xs:List AVal) (ps:Option (List (Nat × AVal))):Option ORes:=match ps with
 | some ps=>sliceS sz h (qcu xs ps)
 | none=>none
where sliceS (sz:Nat) (h:ql) (r:Option (List AVal)):Option ORes:=match r with
 | some xs=>some ⟨.list false sz xs,true,none,h⟩
 | none=>none
@[go_sem] theorem jfx {sz:Nat} {xs:List AVal} {ps:List (Nat × AVal)}:sliceR sz h xs (some ps)=sliceR.sliceS sz h (qcu xs ps):=rfl
@[go_sem] theorem jf0 {sz:Nat} {xs:List AVal}:sliceR.sliceS sz h (some xs)=some ⟨.list false sz xs,true,none,h⟩:=rfl
@[go_sem] theorem jeu {sz len:Nat} {zero:List AVal} {ps:List (Nat × qx)}:qh p xc h0 al e h (.buildSlice sz len zero ps)=sliceR sz h (List.replicate len (bif Nat.beq sz 1 then zero.headD .undef else .agg zero)) (ym e sz ps):=by
 simp only [qh,qt,sliceR,sliceR.sliceS]
 cases ym e sz ps with
 | none=>rfl
 | some ps=>simp only []; cases qcu (List.replicate len (bif Nat.beq sz 1 then zero.headD .undef else .agg zero)) ps <;> rfl
def appR (sz bytes:Nat) (h:ql) (own:Option Nat) (x y:Option AVal):Option ORes:=match x,y with
 | some (.list n sz' xs),some vy=>ifR (n || own.isSome) (appS sz bytes h own n sz' xs (yo sz vy))
 | _,_=>none
where appS (sz bytes:Nat) (h:ql) (own:Option Nat) (n:Bool) (sz':Nat) (xs:List AVal) (ys:Option (List AVal)):Option ORes:=match ys with
 | some ys=>ifR ((Nat.beq sz sz' || (xs.isEmpty && n)) && Nat.ble (xs.length + ys.length) 1073741824 && Nat.ble bytes 4096 && Nat.blt 0 sz) (some ⟨qel n sz xs ys,true,own,h⟩)
 | none=>none
@[go_sem] theorem jm4 {sz bytes:Nat} {own:Option Nat} {n:Bool} {sz':Nat} {xs:List AVal} {vy:AVal}:appR sz bytes h own (some (.list n sz' xs)) (some vy)=ifR (n || own.isSome) (appR.appS sz bytes h own n sz' xs (yo sz vy)):=rfl
@[go_sem] theorem jmz {sz bytes:Nat} {own:Option Nat} {n:Bool} {sz':Nat} {xs ys:List AVal}:appR.appS sz bytes h own n sz' xs (some ys)=ifR ((Nat.beq sz sz' || (xs.isEmpty && n)) && Nat.ble (xs.length + ys.length) 1073741824 && Nat.ble bytes 4096 && Nat.blt 0 sz) (some ⟨qel n sz xs ys,true,own,h⟩):=rfl
@[go_sem] theorem jqt {sz bytes:Nat} {x y:qx}:qh p xc h0 al e h (.append none sz bytes x y)=appR sz bytes h (zj e x) (qk e x) (qk e y):=by
 simp only [qh,qt,appR,appR.appS]
 cases qk e x with
 | none=>rfl
 | some vx=>
  cases vx with
  | list n sz' xs=>
   cases qk e y with
   | none=>rfl
   | some vy=>
    simp only [ifR]
    cases (n || (zj e x).isSome) with
    | false=>rfl
    | true=>
     simp only [cond_true]
     cases yo sz vy with
     | none=>rfl
     | some ys=>simp only []; cases ((Nat.beq sz sz' || (xs.isEmpty && n)) && Nat.ble (xs.length + ys.length) 1073741824 && Nat.ble bytes 4096 && Nat.blt 0 sz) <;> rfl
  | _=>cases qk e y <;> rfl
@[go_sem] theorem jcp {z:Nat} {f:α→AVal} {l:Option (List α)}:yo z (sl z f l)=some ((l.getD []).map f):=by
 cases l <;> simp [yo,sl]
@[go_sem] theorem jr8 {z:Nat} {b:Bool} {xs:List AVal}:yo z (.list b z xs)=some xs:=by simp [yo]
@[go_sem] theorem jtj {z z':Nat} {b:Bool}:yo z (.list b z' [])=some []:=by simp [yo]
@[go_sem] theorem jez {z:Nat} {xs ys:List AVal}:qel false z xs ys=.list false z (xs++ys):=rfl
@[go_sem] theorem jkm {z:Nat} {b:Bool} {xs:List AVal} {y:AVal} {ys:List AVal}:qel b z xs (y::ys)=.list false z (xs++y::ys):=by cases b <;> rfl
attribute [go_sem] Option.isSome_some Option.isSome_none Bool.or_true Bool.true_or List.isEmpty_nil List.isEmpty_cons Bool.and_false Bool.false_and
def qpt (h:ql) (i:Nat) (x:Option AVal):Option ORes:=match x with
 | some (.tup vs)=>qam h vs[i]?
 | _=>none
@[go_sem] theorem jbo {i:Nat} {vs:List AVal}:qpt h i (some (.tup vs))=qam h vs[i]?:=rfl
@[go_sem] theorem joj {i:Nat} {x:qx}:qh p xc h0 al e h (.extract x i)=qpt h i (qk e x):=by
 simp only [qh,qt,qpt]
 cases qk e x with
 | none=>rfl
 | some v=>cases v <;> rfl
def un1 (op:UnOp) (h:ql) (x:Option AVal):Option ORes:=match x with
 | some v=>qam h (qi4 op v)
 | none=>none
@[go_sem] theorem jqj {op:UnOp} {v:AVal}:un1 op h (some v)=qam h (qi4 op v):=rfl
@[go_sem] theorem jvl {op:UnOp} {x:qx}:qh p xc h0 al e h (.un op x)=un1 op h (qk e x):=by
 simp only [qh,qt,un1]
 cases qk e x <;> rfl
@[go_sem] theorem jus {b:Bool}:qi4 .not (.bool b)=some (.bool (!b)):=rfl
@[go_sem] theorem jup {k:IntKind} {n:Int}:qi4 .neg (.int k n)=some (.int k (qg k (0 - n))):=rfl
def q6e (neq:Bool) (h:ql) (x y:Option AVal):Option ORes:=match x,y with
 | some (.bool a),some (.bool b)=>val h (.bool (bif neq then !(a == b) else a == b))
 | _,_=>none
@[go_sem] theorem jnh {neq a b:Bool}:q6e neq h (some (.bool a)) (some (.bool b))=some ⟨.bool (bif neq then !(a == b) else a == b),false,none,h⟩:=rfl
@[go_sem] theorem juw {neq:Bool} {x y:qx}:qh p xc h0 al e h (.beq neq x y)=q6e neq h (qk e x) (qk e y):=by
 simp only [qh,qt,q6e]
 cases qk e x with
 | none=>rfl
 | some v=>cases v <;> cases qk e y <;> rfl
def qsp (f:Fn) (h:ql) (a b:Option (List AVal)):Option ORes:=match a,b with
 | some a,some b=>val h (.fn f a b)
 | _,_=>none
@[go_sem] theorem jdr {f:Fn} {a b:List AVal}:qsp f h (some a) (some b)=some ⟨.fn f a b,false,none,h⟩:=rfl
@[go_sem] theorem jo6 {f:Fn} {a b:List qx}:qh p xc h0 al e h (.mkfunc f a b)=qsp f h (kf e a) (kf e b):=by
 simp only [qh,qt,qsp]
 cases kf e a <;> cases kf e b <;> rfl
def mxR (f:AVal→AVal→Option AVal) (h:ql) (l:Option (List AVal)):Option ORes:=match l with
 | some (v::vs)=>qam h (qcw f v vs)
 | _=>none
@[go_sem] theorem jo1 {f:AVal→AVal→Option AVal} {v:AVal} {vs:List AVal}:mxR f h (some (v::vs))=qam h (qcw f v vs):=rfl
@[go_sem] theorem jvj {l:List qx}:qh p xc h0 al e h (.mx l)=mxR max2 h (kf e l):=by
 simp only [qh,qt,mxR]
 cases kf e l with
 | none=>rfl
 | some vs=>cases vs <;> rfl
@[go_sem] theorem jvi {l:List qx}:qh p xc h0 al e h (.mn l)=mxR min2 h (kf e l):=by
 simp only [qh,qt,mxR]
 cases kf e l with
 | none=>rfl
 | some vs=>cases vs <;> rfl
def q1z (f:AVal→AVal→Option AVal) (x:Option AVal) (l:List AVal):Option AVal:=match x with
 | some z=>qcw f z l
 | none=>none
@[go_sem] theorem jhh {f:AVal→AVal→Option AVal} {x:AVal} {l:List AVal}:q1z f (some x) l=qcw f x l:=rfl
@[go_sem] theorem jnz {f:AVal→AVal→Option AVal} {x:AVal}:qcw f x []=some x:=rfl
@[go_sem] theorem jkj {f:AVal→AVal→Option AVal} {x y:AVal} {l:List AVal}:qcw f x (y::l)=q1z f (f x y) l:=by
 simp only [qcw,q1z]; rfl
@[go_sem] theorem jr1 {k:IntKind} {x y:Int}:max2 (.int k x) (.int k y)=some (.int k (max x y)):=by
 simp only [max2,decide_true,cond_true]
 congr 2
 by_cases h:y > x
 ·rw [if_pos h]; omega
 ·rw [if_neg h]; omega
@[go_sem] theorem jq0 {k:IntKind} {x y:Int}:min2 (.int k x) (.int k y)=some (.int k (min x y)):=by
 simp only [min2,decide_true,cond_true]
 congr 2
 by_cases h:y < x
 ·rw [if_pos h]; omega
 ·rw [if_neg h]; omega
def qvn (k:Nat) (neq:Bool) (h:ql) (x:Option AVal):Option ORes:=match k,x with
  | 0,some (.list n _ _)=>val h (.bool (bif neq then !n else n))
  | 0,some (.ms ..)=>val h (.bool neq)
  | 1,some .nilptr=>val h (.bool (!neq))
  | 1,some (.ptr ..)=>val h (.bool neq)
  | 1,some (.vptr ..)=>val h (.bool neq)
  | 2,some .nilmap=>val h (.bool (!neq))
  | 2,some (.map ..)=>val h (.bool neq)
  | 3,some .nilfn=>val h (.bool (!neq))
  | 3,some (.fn ..)=>val h (.bool neq)
  | _,_=>none
@[go_sem] theorem jtk {k:Nat} {neq:Bool} {x:qx}:qh p xc h0 al e h (.nilEq k neq x)=qvn k neq h (qk e x):=rfl
@[go_sem] theorem jjb {neq n:Bool} {z:Nat} {xs:List AVal}:qvn 0 neq h (some (.list n z xs))=some ⟨.bool (bif neq then !n else n),false,none,h⟩:=rfl
@[go_sem] theorem jnf {n:Nat} {k:IntKind} {i:Int}:below n (.int k i)=true:=rfl
@[go_sem] theorem jgs {n:Nat} {b:Bool}:below n (.bool b)=true:=rfl
@[go_sem] theorem jno {n:Nat} {s:List UInt8}:below n (.str s)=true:=rfl
@[go_sem] theorem jlj {n:Nat} {b:Bool} {z:Nat} {xs:List AVal}:below n (.list b z xs)=jy n xs:=by simp only [below]
@[go_sem] theorem joc {n:Nat} {xs:List AVal}:below n (.agg xs)=jy n xs:=by simp only [below]
@[go_sem] theorem jm7 {n:Nat} {xs:List AVal}:below n (.tup xs)=jy n xs:=by simp only [below]
@[go_sem] theorem jnq {n b o:Nat}:below n (.ptr b o)=decide (b < n):=by simp only [below,qcn]
@[go_sem] theorem joo {n b:Nat}:below n (.map b)=decide (b < n):=by simp only [below,qcn]
@[go_sem] theorem jra {n k:Nat} {a b:List AVal}:below n (.fn (.func k) a b)=(jy n a && jy n b):=by simp only [below]
@[go_sem] theorem jlw {n:Nat}:jy n []=true:=by simp only [jy]
@[go_sem] theorem qxo {n:Nat} {x:AVal} {xs:List AVal}:jy n (x::xs)=(below n x && jy n xs):=by simp only [jy]
@[go_sem] theorem jlf {n:Nat} {i:Int}:below n (qu i)=true:=rfl
@[go_sem] theorem jli {n z:Nat} {l:Option (List Int)}:below n (sl z qu l)=true:=qe0 fun _=>rfl
theorem qre {n:Nat} {f:α→AVal} (hf:∀ x,below n (f x)=true):∀ l:List α,jy n (l.map f)=true
 | []=>rfl
 | x::l=>by rw [List.map_cons,qxo,hf,qre hf l]; rfl
@[go_sem] theorem jfb {n:Nat} {l:List Int}:jy n (l.map qu)=true:=qre (fun _=>rfl) l
@[go_sem] theorem jt0 {k:IntKind} {i:Int}:qap h (.int k i)=some (.int k i):=rfl
@[go_sem] theorem jr6 {b:Bool}:qap h (.bool b)=some (.bool b):=rfl
@[go_sem] theorem jt5 {s:List UInt8}:qap h (.str s)=some (.str s):=rfl
@[go_sem] theorem jq3 {b:Bool} {z:Nat} {xs:List AVal}:qap h (.list b z xs)=some (.list b z xs):=rfl
@[go_sem] theorem jat {z:Nat} {f:α→AVal} {l:Option (List α)}:qap h (sl z f l)=some (sl z f l):=by cases l <;> rfl
@[go_sem] theorem jp1:qao h []=some []:=rfl
@[go_sem] theorem jnj {v:AVal} {vs:List AVal}:qao h (v::vs)=qds (qap h v) (qao h vs):=by
 simp only [qao,qds]
 cases qap h v with
 | none=>rfl
 | some x=>cases qao h vs <;> rfl
def q1x (l:Option (List AVal)):Option AVal:=match l with
 | some xs=>some (.agg xs)
 | none=>none
@[go_sem] theorem jn7 {xs:List AVal}:q1x (some xs)=some (.agg xs):=rfl
@[go_sem] theorem jr3 {cs:List AVal}:freezeR h (.agg cs)=q1x (qao h cs):=by
 simp only [freezeR,q1x]
 cases qao h cs <;> rfl
@[go_sem] theorem jos {k:IntKind} {i:Int}:freezeR h (.int k i)=some (.int k i):=rfl
@[go_sem] theorem jmp {b:Bool}:freezeR h (.bool b)=some (.bool b):=rfl
@[go_sem] theorem jp6 {s:List UInt8}:freezeR h (.str s)=some (.str s):=rfl
@[go_sem] theorem jn2 {b:Bool} {z:Nat} {xs:List AVal}:freezeR h (.list b z xs)=some (.list b z xs):=rfl
@[go_sem] theorem jto {z:Nat} {f:α→AVal} {l:Option (List α)}:freezeR h (sl z f l)=some (sl z f l):=by cases l <;> rfl
def q5g (l:Option (List AVal)):Option AVal:=match l with
 | some xs=>some (.tup xs)
 | none=>none
@[go_sem] theorem jnu {xs:List AVal}:q5g (some xs)=some (.tup xs):=rfl
@[go_sem] theorem jsw {cs:List AVal}:freezeR h (.tup cs)=q5g (freezeR.freezeT h cs):=by
 simp only [freezeR,q5g]
 cases freezeR.freezeT h cs <;> rfl
@[go_sem] theorem jq8:freezeR.freezeT h []=some []:=rfl
@[go_sem] theorem jsh {cs vs:List AVal}:freezeR.freezeT h (.agg cs::vs)=qds (q1x (qao h cs)) (freezeR.freezeT h vs):=by
 rw [freezeR.freezeT]
 cases qao h cs with
 | none=>rfl
 | some x=>cases freezeR.freezeT h vs <;> rfl
theorem qhq {v:AVal} {vs:List AVal} (hv:v.isAgg=false):freezeR.freezeT h (v::vs)=qds (qap h v) (freezeR.freezeT h vs):=by
 have:∀ cs,v ≠ .agg cs:=fun cs hc=>by rw [hc] at hv; cases hv
 rw [freezeR.freezeT]
 ·cases qap h v with
  | none=>rfl
  | some x=>cases freezeR.freezeT h vs <;> rfl
 ·exact this
@[go_sem] theorem jsc {k:IntKind} {i:Int} {vs:List AVal}:freezeR.freezeT h (.int k i::vs)=qds (some (.int k i)) (freezeR.freezeT h vs):=qhq rfl
@[go_sem] theorem jng {b:Bool} {vs:List AVal}:freezeR.freezeT h (.bool b::vs)=qds (some (.bool b)) (freezeR.freezeT h vs):=qhq rfl
@[go_sem] theorem jq7 {s:List UInt8} {vs:List AVal}:freezeR.freezeT h (.str s::vs)=qds (some (.str s)) (freezeR.freezeT h vs):=qhq rfl
@[go_sem] theorem jnn {b:Bool} {z:Nat} {xs vs:List AVal}:freezeR.freezeT h (.list b z xs::vs)=qds (some (.list b z xs)) (freezeR.freezeT h vs):=qhq rfl
@[go_sem] theorem jtm {z:Nat} {f:α→AVal} {l:Option (List α)} {vs:List AVal}:freezeR.freezeT h (sl z f l::vs)=qds (some (sl z f l)) (freezeR.freezeT h vs):=by
 rw [qhq (by cases l <;> rfl),jat]
attribute [go_sem] List.contains_cons List.contains_nil
@[go_sem] theorem jtw {a b:Nat}:(a == b)=decide (a=b):=by
 by_cases hab:a=b <;> simp [hab]
def qq0 (agg:Bool) (c:Option (AVal × Bool)) (vs:Option (List AVal)):Option (AVal × Bool):=match vs,agg with
 | some vs,true=>some (.agg vs,false)
 | some _,false=>c
 | none,_=>none
@[go_sem] theorem jns {c:Option (AVal × Bool)} {vs:List AVal}:qq0 true c (some vs)=some (.agg vs,false):=rfl
@[go_sem] theorem joh {c:Option (AVal × Bool)} {vs:List AVal}:qq0 false c (some vs)=c:=rfl
def quv (agg:Bool) (o n:Nat) (cs:Option (List (AVal × Bool))):Option (AVal × Bool):=match cs with
 | some cs=>qq0 agg cs[o]? (yy cs o n)
 | none=>none
@[go_sem] theorem jgw {agg:Bool} {o n:Nat} {cs:List (AVal × Bool)}:quv agg o n (some cs)=qq0 agg cs[o]? (yy cs o n):=rfl
def q0b (agg:Bool) (n:Nat) (h:ql) (x:Option (AVal × Bool)):Option (AVal × Bool):=match x with
 | some (.ptr b o,_)=>quv agg o n (jp h b)
 | _=>none
@[go_sem] theorem jm1 {agg:Bool} {n b o:Nat} {w:Bool}:q0b agg n h (some (.ptr b o,w))=quv agg o n (jp h b):=rfl
@[go_sem] theorem jaj {t n:Nat} {agg:Bool}:qbk ⟨e,h⟩ (.cell t agg n)=q0b agg n h (jn t e):=by
 simp only [qbk,q0b]
 cases jn t e with
 | none=>rfl
 | some x=>
  obtain ⟨v,w⟩:=x
  cases v with
  | ptr b o=>
   simp only [quv]
   cases jp h b with
   | none=>rfl
   | some cs=>
    simp only [qq0]
    cases yy cs o n with
    | none=>rfl
    | some vs=>cases agg with
     | true=>rfl
     | false=>simp only [cond_false]; cases cs[o]? <;> rfl
  | _=>rfl
theorem qc9 {k:Nat} {args:List AVal} {v v':AVal} {o:Bool} (hp:p.prims k=none) (hc:jl p xc k args []=some (v,o,h)) (hz:freezeR h v=some v') (hv:below 0 v'=true):qc p xc k args=some (v',o && v.isList):=by
 unfold qc
 rw [hp]
 simp only [hc,hz,qdb,hv,cond_true]
end
end Go.Abs
