/- Equations of the executor, second part. -/
import Derived.Test.YtnjngdcbkkonnaaGreatDoorAbsI
set_option linter.unusedVariables false
set_option linter.unusedSimpArgs false
namespace Go.Abs
section
variable {p:jm} {xc:XC} {h0:Nat} {al:Option (List Nat)} {e:Env} {h:qm} {α:Type}
attribute [go_sem] List.getElem?_cons_zero List.getElem?_cons_succ List.getElem?_nil List.set_cons_zero List.set_cons_succ List.set_nil List.cons_append List.replicate_zero List.replicate_succ List.map_cons List.map_nil List.all_cons List.all_nil List.drop_zero List.drop_succ_cons List.take_zero List.take_succ_cons List.drop_nil List.take_nil Bool.and_true Bool.true_and Bool.or_false Bool.false_or Bool.and_self List.headD_cons List.foldl_cons List.foldl_nil List.flatMap_cons List.flatMap_nil
@[go_sem] theorem jnc {k:IntKind} {n:Int}:qo (.int k n)=true:=rfl
@[go_sem] theorem jl8 {b:Bool}:qo (.bool b)=true:=rfl
@[go_sem] theorem jnf {s:List UInt8}:qo (.str s)=true:=rfl
@[go_sem] theorem jl6 {b:Bool} {z:Nat} {xs:List AVal}:qo (.list b z xs)=true:=rfl
@[go_sem] theorem jnv {b o n:Nat}:qo (.ms b o n)=true:=rfl
@[go_sem] theorem jm6 {b o:Nat}:qo (.ptr b o)=true:=rfl
@[go_sem] theorem jm7 {b:Nat}:qo (.map b)=true:=rfl
@[go_sem] theorem jgk:qo .nilptr=true:=rfl
@[go_sem] theorem jgs:qo .nilmap=true:=rfl
@[go_sem] theorem jlr:qo .nilfn=true:=rfl
@[go_sem] theorem jn0 {f:Fn} {a b:List AVal}:qo (.fn f a b)=true:=rfl
@[go_sem] theorem jnk {z:Nat} {f:α→AVal} {l:Option (List α)}:qo (sl z f l)=true:=by cases l <;> rfl
@[go_sem] theorem jlz {cs:List AVal}:AVal.flat (.agg cs)=cs:=rfl
@[go_sem] theorem jjp {k:IntKind} {n:Int}:AVal.flat (.int k n)=[.int k n]:=rfl
@[go_sem] theorem jgw {b:Bool}:AVal.flat (.bool b)=[.bool b]:=rfl
@[go_sem] theorem jjm {s:List UInt8}:AVal.flat (.str s)=[.str s]:=rfl
@[go_sem] theorem jh8 {b:Bool} {z:Nat} {xs:List AVal}:AVal.flat (.list b z xs)=[.list b z xs]:=rfl
@[go_sem] theorem jmk {z:Nat} {f:α→AVal} {l:Option (List α)}:AVal.flat (sl z f l)=[sl z f l]:=by cases l <;> rfl
@[go_sem] theorem jli {b o:Nat}:AVal.flat (.ptr b o)=[.ptr b o]:=rfl
@[go_sem] theorem jjv {b:Nat}:AVal.flat (.map b)=[.map b]:=rfl
@[go_sem] theorem jme {f:Fn} {a b:List AVal}:AVal.flat (.fn f a b)=[.fn f a b]:=rfl
@[go_sem] theorem jml {b o n:Nat}:AVal.flat (.ms b o n)=[.ms b o n]:=rfl
@[go_sem] theorem ql6 {a b:Nat}:Nat.beq a b=decide (a=b):=by
 cases h:Nat.beq a b with
 | true=>have:=Nat.eq_of_beq_eq_true h; simp [this]
 | false=>
  have:a ≠ b:=fun hh=>by subst hh; simp at h
  simp [this]
@[go_sem] theorem kw {a b:Nat}:Nat.ble a b=decide (a≤b):=by
 cases h:Nat.ble a b with
 | true=>have:=Nat.le_of_ble_eq_true h; simp [this]
 | false=>
  have:¬ a≤b:=fun hh=>by rw [Nat.ble_eq_true_of_le hh] at h; cases h
  simp [this]
@[go_sem] theorem qbx {a b:Nat}:Nat.blt a b=decide (a < b):=by
 show Nat.ble (a + 1) b=_
 rw [kw]; rfl
@[go_sem] theorem jgq {b:Nat}:jx h0 none b=true:=rfl
@[go_sem] theorem jma:exl []=false:=rfl
@[go_sem] theorem jkm {k:Nat} {l:List Nat}:exl (k::l)=decide (1000≤k):=by simp only [exl,kw]
@[go_sem] theorem jl4 {k b:Nat} {l:List Nat}:exq h0 (k::l) b=cond (decide (k < 2000)) (decide (b=k - 1000) && decide (b < h0)) (decide (b=h0 + (k - 2000))):=by
 have e:∀ x y:Nat,Nat.beq x y=decide (x=y):=fun x y=>by
  cases h:Nat.beq x y with
  | true=>rw [Nat.eq_of_beq_eq_true h]; simp
  | false=>
   have:x ≠ y:=fun e=>by rw [e,Nat.beq_refl] at h; cases h
   simp [this]
 simp only [exq,qbx,e]
@[go_sem] theorem jbx {b:Nat} {l:List Nat}:jx h0 (some l) b=cond (exl l) (exq h0 l b) (decide (b < h0) || l.contains (b - h0)):=by simp only [jx,qbx]
def kl (r:Option qm) (v:AVal):Option ORes:=match r with
 | some h'=>some ⟨v,false,none,h'⟩
 | none=>none
@[go_sem] theorem jie {v:AVal}:kl (some h) v=some ⟨v,false,none,h⟩:=rfl
@[go_sem] theorem jhm {h0 r:Nat} {es:List (AVal × AVal)}:qx3 h0 r h true (some es)=kl (newBox h0 h r (.map es)) (.map (h0 + r)):=rfl
def q2i (n:Nat) (h:qm) (b:Option ABox) (x:ABox):Option qm:=match b with
 | some .hole=>some (h.set n x)
 | _=>none
@[go_sem] theorem jgt {n:Nat} {x:ABox}:q2i n h (some .hole) x=some (h.set n x):=rfl
@[go_sem] theorem jig {r:Nat} {x:ABox}:newBox h0 h r x=q2i (h0 + r) h h[h0 + r]? x:=by
 unfold newBox q2i; rfl
def ifR (b:Bool) (r:Option ORes):Option ORes:=match b with
 | true=>r
 | false=>none
@[go_sem] theorem jjf {r:Option ORes}:ifR true r=r:=rfl
@[go_sem] theorem jmn {r:Nat} {z:List AVal}:qc p xc h0 al e h (.alloc r z)=ifR (z.all qo) (kl (newBox h0 h r (.cells (cellsOf z))) (.ptr (h0 + r) 0)):=by
 simp only [qc,qu,ifR]
 cases z.all qo with
 | false=>rfl
 | true=>simp only [cond_true,kl]; cases newBox h0 h r (.cells (cellsOf z)) <;> rfl
def qwz (n:Nat) (h:qm) (x:Option AVal):Option ORes:=match x with
 | some v=>ifR (Nat.beq v.flat.length n && v.flat.all qo) (some ⟨.vptr v,false,none,h⟩)
 | none=>none
@[go_sem] theorem jcz {n:Nat} {v:AVal}:qwz n h (some v)=ifR (Nat.beq v.flat.length n && v.flat.all qo) (some ⟨.vptr v,false,none,h⟩):=rfl
@[go_sem] theorem jmy {n:Nat} {x:qr}:qc p xc h0 al e h (.vbox n x)=qwz n h (qh e x):=by
 simp only [qc,qp,qwz]
 cases qh e x with
 | none=>rfl
 | some v=>
  simp only [ifR]
  cases (Nat.beq v.flat.length n && v.flat.all qo) <;> rfl
def q2h (h0 r n:Nat) (h:qm) (x:Option AVal):Option ORes:=match x with
 | some v=>ifR (Nat.beq v.flat.length n && v.flat.all qo) (kl (newBox h0 h r (.cells (cellsOf v.flat))) (.ptr (h0 + r) 0))
 | none=>none
@[go_sem] theorem jid {r n:Nat} {v:AVal}:q2h h0 r n h (some v)=ifR (Nat.beq v.flat.length n && v.flat.all qo) (kl (newBox h0 h r (.cells (cellsOf v.flat))) (.ptr (h0 + r) 0)):=rfl
@[go_sem] theorem jnp {r n:Nat} {x:qr}:qc p xc h0 al e h (.box r n x)=q2h h0 r n h (qh e x):=by
 simp only [qc,qu,q2h]
 cases qh e x with
 | none=>rfl
 | some v=>
  simp only [ifR,kl]
  cases (Nat.beq v.flat.length n && v.flat.all qo) with
  | false=>rfl
  | true=>simp only [cond_true]; cases newBox h0 h r (.cells (cellsOf v.flat)) <;> rfl
@[go_sem] theorem q4l {r:Nat}:qc p xc h0 al e h (.mkmap r)=kl (newBox h0 h r (.map [])) (.map (h0 + r)):=by
 simp only [qc,qu,kl]
 cases newBox h0 h r (.map []) <;> rfl
@[go_sem] theorem q9t:cellsOf []=[]:=rfl
@[go_sem] theorem q8t {v:AVal} {vs:List AVal}:cellsOf (v::vs)=(v,false)::cellsOf vs:=rfl
def qdn (agg:Bool) (h:qm) (r:Option AVal):Option ORes:=match r with
 | some v=>bif Bool.xor agg v.isAgg then none else val h (.vptr v)
 | none=>none
def qdq (agg:Bool) (off n:Nat) (h:qm) (x:Option AVal):Option ORes:=match x with
 | some (.ptr b o)=>val h (.ptr b (o + off))
 | some (.vptr (.agg cs))=>qdn agg h (part agg cs off n)
 | _=>none
@[go_sem] theorem q56 {agg:Bool} {off n b o:Nat}:qdq agg off n h (some (.ptr b o))=some ⟨.ptr b (o + off),false,none,h⟩:=rfl
@[go_sem] theorem q4s {agg:Bool} {off n:Nat} {cs:List AVal}:qdq agg off n h (some (.vptr (.agg cs)))=qdn agg h (part agg cs off n):=rfl
@[go_sem] theorem q95 {agg:Bool} {off n:Nat} {x:qr}:qc p xc h0 al e h (.fieldAddr agg off n x)=qdq agg off n h (qh e x):=by
 simp only [qc,qp,qdq]
 cases qh e x with
 | none=>rfl
 | some v=>cases v with
  | vptr v=>cases v <;> rfl
  | _=>rfl
def jni (v:AVal):Prop:=v.isAgg=false
theorem jg5 {v:AVal} (hv:v.isAgg=false):qdn false h (some v)=some ⟨.vptr v,false,none,h⟩:=by simp [qdn,hv,val]
@[go_sem] theorem jhu {k:IntKind} {n:Int}:qdn false h (some (.int k n))=some ⟨.vptr (.int k n),false,none,h⟩:=rfl
@[go_sem] theorem jii {s:List UInt8}:qdn false h (some (.str s))=some ⟨.vptr (.str s),false,none,h⟩:=rfl
@[go_sem] theorem jas {b:Bool}:qdn false h (some (.bool b))=some ⟨.vptr (.bool b),false,none,h⟩:=rfl
@[go_sem] theorem ji3 {z:Nat} {f:α→AVal} {l:Option (List α)}:qdn false h (some (sl z f l))=some ⟨.vptr (sl z f l),false,none,h⟩:=by cases l <;> rfl
@[go_sem] theorem jib {cs:List AVal}:qdn true h (some (.agg cs))=some ⟨.vptr (.agg cs),false,none,h⟩:=rfl
@[go_sem] theorem ji4 {cs:List AVal} {off n:Nat}:part false cs off n=cs[off]?:=rfl
def qw5 (b:Bool) (cs:List AVal) (off n:Nat):Option AVal:=match b with
 | true=>some (.agg ((cs.drop off).take n))
 | false=>none
@[go_sem] theorem jdu {cs:List AVal} {off n:Nat}:qw5 true cs off n=some (.agg ((cs.drop off).take n)):=rfl
@[go_sem] theorem jk6 {cs:List AVal} {off n:Nat}:part true cs off n=qw5 (decide (off + n≤cs.length)) cs off n:=by
 simp only [part,qw5,cond_true,kw]
 cases decide (off + n≤cs.length) <;> rfl
@[go_sem] theorem jjd {z:Nat} {f:α→AVal} {l:Option (List α)}:qap h0 al false 1 h (some (.vptr (sl z f l)))=some ⟨sl z f l,false,none,h⟩:=by cases l <;> rfl
def q20 (h:qm) (cs:List AVal) (b:Bool):Option ORes:=match b with
 | true=>some ⟨.agg cs,false,none,h⟩
 | false=>none
@[go_sem] theorem jhs {cs:List AVal}:q20 h cs true=some ⟨.agg cs,false,none,h⟩:=rfl
@[go_sem] theorem jec {n:Nat} {cs:List AVal}:qap h0 al true n h (some (.vptr (.agg cs)))=q20 h cs (decide (cs.length=n)):=by
 unfold q20
 by_cases hn:cs.length=n
 ·rw [q0t hn]; simp [hn]
 ·simp [qap,AVal.isAgg,AVal.flat,hn,ql6]
def qsx (agg:Bool) (h:qm) (vs:Option (List AVal)):Option ORes:=match vs with
 | some vs=>bif agg then val h (.agg vs) else (match vs with
  | [v]=>val h v
  | _=>none)
 | none=>none
@[go_sem] theorem jip {vs:List AVal}:qsx true h (some vs)=some ⟨.agg vs,false,none,h⟩:=rfl
@[go_sem] theorem jjb {v:AVal}:qsx false h (some [v])=some ⟨v,false,none,h⟩:=rfl
def qto (b:Option ABox):Option (List (AVal × Bool)):=match b with
 | some (.cells cs)=>some cs
 | _=>none
@[go_sem] theorem q9o {cs:List (AVal × Bool)}:qto (some (.cells cs))=some cs:=rfl
@[go_sem] theorem q9d {b:Nat}:js h b=qto h[b]?:=by unfold js qto; rfl
def ldC (b:Bool) (cs:List (AVal × Bool)) (off n:Nat):Option (List AVal):=match b with
 | true=>some (((cs.drop off).take n).map (·.1))
 | false=>none
@[go_sem] theorem jjw {cs:List (AVal × Bool)} {off n:Nat}:ldC true cs off n=some (((cs.drop off).take n).map (·.1)):=rfl
@[go_sem] theorem q6l {cs:List (AVal × Bool)} {off n:Nat}:yi cs off n=ldC (decide (off + n≤cs.length)) cs off n:=by
 simp only [yi,ldC,kw]
 cases decide (off + n≤cs.length) <;> rfl
def q1t (agg:Bool) (o n:Nat) (h:qm) (cs:Option (List (AVal × Bool))):Option ORes:=match cs with
 | some cs=>qsx agg h (yi cs o n)
 | none=>none
@[go_sem] theorem jg7 {agg:Bool} {o n:Nat} {cs:List (AVal × Bool)}:q1t agg o n h (some cs)=qsx agg h (yi cs o n):=rfl
@[go_sem] theorem jhx {agg:Bool} {n b o:Nat}:qap h0 al agg n h (some (.ptr b o))=ifR (jx h0 al b) (q1t agg o n h (js h b)):=by
 simp only [qap,ifR,q1t,qsx]
 cases jx h0 al b with
 | false=>rfl
 | true=>
  simp only [cond_true]
  cases js h b with
  | none=>rfl
  | some cs=>simp only []; cases yi cs o n <;> rfl
def qro (r:Option qm) (v:AVal) (w:Bool):Option ORes:=match r with
 | some h'=>some ⟨v,w,none,h'⟩
 | none=>none
@[go_sem] theorem jfl {v:AVal} {w:Bool}:qro (some h) v w=some ⟨v,w,none,h⟩:=rfl
def qrm (h:qm) (b o:Nat) (cs:List (AVal × Bool)) (x:Option (AVal × Bool)):Option ORes:=match x with
 | some (v,w)=>qro (jq h b (.cells (cs.set o (v,false)))) v w
 | none=>none
@[go_sem] theorem jci {b o:Nat} {cs:List (AVal × Bool)} {v:AVal} {w:Bool}:qrm h b o cs (some (v,w))=qro (jq h b (.cells (cs.set o (v,false)))) v w:=rfl
def qrp (h:qm) (b o:Nat) (cs:Option (List (AVal × Bool))):Option ORes:=match cs with
 | some cs=>qrm h b o cs cs[o]?
 | none=>none
@[go_sem] theorem jgi {b o:Nat} {cs:List (AVal × Bool)}:qrp h b o (some cs)=qrm h b o cs cs[o]?:=rfl
def qky (h0:Nat) (al:Option (List Nat)) (off:Option Nat) (h:qm) (x:Option AVal):Option ORes:=match x with
 | some (.ptr b o)=>ifR (jx h0 al b && qej off o) (qrp h b o (js h b))
 | _=>none
@[go_sem] theorem q5y {off:Option Nat} {b o:Nat}:qky h0 al off h (some (.ptr b o))=ifR (jx h0 al b && qej off o) (qrp h b o (js h b)):=rfl
@[go_sem] theorem jgh {o:Nat}:qej none o=true:=rfl
@[go_sem] theorem jcw {a o:Nat}:qej (some a) o=decide (a=o):=by simp only [qej,ql6]
@[go_sem] theorem jbh {off:Option Nat} {x:qr}:qc p xc h0 al e h (.loadTake off x)=qky h0 al off h (qh e x):=by
 simp only [qc,qu,qky]
 cases qh e x with
 | none=>rfl
 | some v=>cases v with
  | ptr b o=>
   simp only [ifR,qrp,qrm,qro]
   cases (jx h0 al b && qej off o) with
   | false=>rfl
   | true=>
    simp only [cond_true]
    cases js h b with
    | none=>rfl
    | some cs=>
     simp only []
     cases cs[o]? with
     | none=>rfl
     | some c=>
      obtain ⟨v,w⟩:=c
      simp only []
      cases jq h b (.cells (cs.set o (v,false))) <;> rfl
  | _=>rfl
def q2l (b:Bool) (n:Nat) (x:ABox) (h:qm):Option qm:=match b with
 | true=>some (h.set n x)
 | false=>none
@[go_sem] theorem jhq {n:Nat} {x:ABox}:q2l true n x h=some (h.set n x):=rfl
@[go_sem] theorem jif {b:Nat} {x:ABox}:jq h b x=q2l (decide (b < h.length)) b x h:=by
 simp only [jq,q2l,qbx]
 cases decide (b < h.length) <;> rfl
def stC (b:Bool) (cs:List (AVal × Bool)) (off:Nat) (vs:List AVal):Option (List (AVal × Bool)):=match b with
 | true=>some (cs.take off++vs.map (·,false)++cs.drop (off + vs.length))
 | false=>none
@[go_sem] theorem ji5 {cs:List (AVal × Bool)} {off:Nat} {vs:List AVal}:stC true cs off vs=some (cs.take off++vs.map (·,false)++cs.drop (off + vs.length)):=rfl
@[go_sem] theorem q55 {cs:List (AVal × Bool)} {off:Nat} {vs:List AVal}:yt cs off vs=stC (decide (off + vs.length≤cs.length) && vs.all qo) cs off vs:=by
 simp only [yt,stC,kw]
 cases (decide (off + vs.length≤cs.length) && vs.all qo) <;> rfl
def jn5 (e:Env) (x:qr):Option Nat:=j7 e x
def qx1 (t:Nat) (x:Option (AVal × Bool)):Option Nat:=match x with
 | some (_,true)=>some t
 | _=>none
@[go_sem] theorem jg2 {t:Nat} {v:AVal}:qx1 t (some (v,true))=some t:=rfl
@[go_sem] theorem jak {t:Nat} {v:AVal}:qx1 t (some (v,false))=none:=rfl
@[go_sem] theorem jg1 {t:Nat}:j7 e (.tmp t)=qx1 t (ji t e):=by
 simp only [j7,qx1]; rfl
@[go_sem] theorem q9q {v:AVal}:j7 e (.const v)=none:=rfl
def qmd (h:qm) (b:Nat) (cs:Option (List (AVal × Bool))):Option ORes:=match cs with
 | some cs'=>kl (jq h b (.cells cs')) .undef
 | none=>none
@[go_sem] theorem q6x {b:Nat} {cs:List (AVal × Bool)}:qmd h b (some cs)=kl (jq h b (.cells cs)) .undef:=rfl
def qrr (t:Nat) (r:Option qm):Option ORes:=match r with
 | some h'=>some ⟨.undef,false,some t,h'⟩
 | none=>none
@[go_sem] theorem ja0 {t:Nat}:qrr t (some h)=some ⟨.undef,false,some t,h⟩:=rfl
def qkw (n:Nat) (h:qm) (b o:Nat) (v:AVal) (own:Option Nat) (cs:Option (List (AVal × Bool))):Option ORes:=match cs,own with
 | some cs,some t=>ifR (Nat.beq n 1 && v.isList && Nat.blt o cs.length) (qrr t (jq h b (.cells (cs.set o (v,true)))))
 | some cs,none=>ifR (Nat.beq v.flat.length n) (qmd h b (yt cs o v.flat))
 | none,_=>none
@[go_sem] theorem jgb {n b o t:Nat} {v:AVal} {cs:List (AVal × Bool)}:qkw n h b o v (some t) (some cs)=ifR (Nat.beq n 1 && v.isList && Nat.blt o cs.length) (qrr t (jq h b (.cells (cs.set o (v,true))))):=rfl
@[go_sem] theorem q70 {n b o:Nat} {v:AVal} {cs:List (AVal × Bool)}:qkw n h b o v none (some cs)=ifR (Nat.beq v.flat.length n) (qmd h b (yt cs o v.flat)):=rfl
def qtj (h0:Nat) (al:Option (List Nat)) (n:Nat) (h:qm) (own:Option Nat) (a x:Option AVal):Option ORes:=match a,x with
 | some (.ptr b o),some v=>ifR (jx h0 al b) (qkw n h b o v own (js h b))
 | _,_=>none
@[go_sem] theorem jfx {n b o:Nat} {own:Option Nat} {v:AVal}:qtj h0 al n h own (some (.ptr b o)) (some v)=ifR (jx h0 al b) (qkw n h b o v own (js h b)):=rfl
@[go_sem] theorem jmq {n:Nat} {a x:qr}:qc p xc h0 al e h (.store n a x)=qtj h0 al n h (j7 e x) (qh e a) (qh e x):=by
 simp only [qc,qu,qtj]
 cases qh e a with
 | none=>rfl
 | some va=>
  cases va with
  | ptr b o=>
   cases qh e x with
   | none=>rfl
   | some v=>
    simp only [ifR]
    cases jx h0 al b with
    | false=>rfl
    | true=>
     simp only [cond_true]
     cases js h b with
     | none=>rfl
     | some cs=>
      simp only [qkw]
      cases j7 e x with
      | none=>
       simp only [ifR,qmd,kl]
       cases Nat.beq v.flat.length n with
       | false=>rfl
       | true=>
        simp only [cond_true]
        cases yt cs o v.flat with
        | none=>rfl
        | some cs'=>simp only []; cases jq h b (.cells cs') <;> rfl
      | some t=>
       simp only [ifR,qrr]
       cases (Nat.beq n 1 && v.isList && Nat.blt o cs.length) with
       | false=>rfl
       | true=>simp only [cond_true]; cases jq h b (.cells (cs.set o (v,true))) <;> rfl
  | _=>rfl
@[go_sem] theorem q94 {b:Bool} {z:Nat} {xs:List AVal}:AVal.isList (.list b z xs)=true:=rfl
@[go_sem] theorem jhd {z:Nat} {f:α→AVal} {l:Option (List α)}:AVal.isList (sl z f l)=true:=by cases l <;> rfl
def qn8 (b:Bool) (off:Nat) (vs:List AVal) (l:Option (List (Nat × List AVal))):Option (List (Nat × List AVal)):=match b,l with
 | true,some r=>some ((off,vs)::r)
 | _,_=>none
@[go_sem] theorem q97 {off:Nat} {vs:List AVal} {r:List (Nat × List AVal)}:qn8 true off vs (some r)=some ((off,vs)::r):=rfl
def qt0 (x:Option AVal) (off n:Nat) (l:Option (List (Nat × List AVal))):Option (List (Nat × List AVal)):=match x with
 | some v=>qn8 (Nat.beq v.flat.length n && v.flat.all qo) off v.flat l
 | none=>none
@[go_sem] theorem q96 {v:AVal} {off n:Nat} {l:Option (List (Nat × List AVal))}:qt0 (some v) off n l=qn8 (Nat.beq v.flat.length n && v.flat.all qo) off v.flat l:=rfl
@[go_sem] theorem q5s:ye e []=some []:=rfl
@[go_sem] theorem q5g {off n:Nat} {x:qr} {l:List (Nat × Nat × qr)}:ye e ((off,n,x)::l)=qt0 (qh e x) off n (ye e l):=by
 simp only [ye,qt0,qn8]
 cases qh e x with
 | none=>rfl
 | some v=>simp only []; cases (Nat.beq v.flat.length n && v.flat.all qo) <;> cases ye e l <;> rfl
def fillR (h:qm) (zero:List AVal) (ps:Option (List (Nat × List AVal))):Option ORes:=match ps with
 | some ps=>fillS h (qal zero ps)
 | none=>none
where fillS (h:qm) (r:Option (List AVal)):Option ORes:=match r with
 | some cs=>some ⟨.agg cs,false,none,h⟩
 | none=>none
@[go_sem] theorem jbl {zero:List AVal} {ps:List (Nat × List AVal)}:fillR h zero (some ps)=fillR.fillS h (qal zero ps):=rfl
@[go_sem] theorem jat {cs:List AVal}:fillR.fillS h (some cs)=some ⟨.agg cs,false,none,h⟩:=rfl
@[go_sem] theorem jmu {zero:List AVal} {ps:List (Nat × Nat × qr)}:qc p xc h0 al e h (.build zero ps)=fillR h zero (ye e ps):=by
 simp only [qc,qp,fillR,fillR.fillS]
 cases ye e ps with
 | none=>rfl
 | some ps=>simp only []; cases qal zero ps <;> rfl
@[go_sem] theorem jhv {cs:List AVal}:qal cs []=some cs:=rfl
def qxx (b:Bool) (cs:List AVal) (off:Nat) (vs:List AVal) (l:List (Nat × List AVal)):Option (List AVal):=match b with
 | true=>qal (cs.take off++vs++cs.drop (off + vs.length)) l
 | false=>none
@[go_sem] theorem jbv {cs:List AVal} {off:Nat} {vs:List AVal} {l:List (Nat × List AVal)}:qxx true cs off vs l=qal (cs.take off++vs++cs.drop (off + vs.length)) l:=rfl
@[go_sem] theorem jfp {cs:List AVal} {off:Nat} {vs:List AVal} {l:List (Nat × List AVal)}:qal cs ((off,vs)::l)=qxx (decide (off + vs.length≤cs.length)) cs off vs l:=by
 simp only [qal,qxx,kw]
 cases decide (off + vs.length≤cs.length) <;> rfl
def elemsO (x:Option AVal) (i sz:Nat) (l:Option (List (Nat × AVal))):Option (List (Nat × AVal)):=match x with
 | some v=>elemsC (Nat.beq v.flat.length sz && v.flat.all qo) i v l
 | none=>none
where elemsC (b:Bool) (i:Nat) (v:AVal) (l:Option (List (Nat × AVal))):Option (List (Nat × AVal)):=match b,l with
 | true,some r=>some ((i,v)::r)
 | _,_=>none
@[go_sem] theorem q9v {v:AVal} {i sz:Nat} {l:Option (List (Nat × AVal))}:elemsO (some v) i sz l=elemsO.elemsC (Nat.beq v.flat.length sz && v.flat.all qo) i v l:=rfl
@[go_sem] theorem q91 {v:AVal} {i:Nat} {r:List (Nat × AVal)}:elemsO.elemsC true i v (some r)=some ((i,v)::r):=rfl
@[go_sem] theorem q57 {sz:Nat}:zy e sz []=some []:=rfl
@[go_sem] theorem q35 {sz i:Nat} {x:qr} {l:List (Nat × qr)}:zy e sz ((i,x)::l)=elemsO (qh e x) i sz (zy e sz l):=by
 simp only [zy,elemsO,elemsO.elemsC]
 cases qh e x with
 | none=>rfl
 | some v=>simp only []; cases (Nat.beq v.flat.length sz && v.flat.all qo) <;> cases zy e sz l <;> rfl
@[go_sem] theorem jhh {xs:List AVal}:qbz xs []=some xs:=rfl
def qsh (b:Bool) (xs:List AVal) (i:Nat) (v:AVal) (l:List (Nat × AVal)):Option (List AVal):=match b with
 | true=>qbz (xs.set i v) l
 | false=>none
@[go_sem] theorem q99 {xs:List AVal} {i:Nat} {v:AVal} {l:List (Nat × AVal)}:qsh true xs i v l=qbz (xs.set i v) l:=rfl
@[go_sem] theorem jf9 {xs:List AVal} {i:Nat} {v:AVal} {l:List (Nat × AVal)}:qbz xs ((i,v)::l)=qsh (decide (i < xs.length)) xs i v l:=by
 simp only [qbz,qsh,qbx]
 cases decide (i < xs.length) <;> rfl
def sliceR (sz:Nat) (h:qm) (xs:List AVal) (ps:Option (List (Nat × AVal))):Option ORes:=match ps with
 | some ps=>sliceS sz h (qbz xs ps)
 | none=>none
where sliceS (sz:Nat) (h:qm) (r:Option (List AVal)):Option ORes:=match r with
 | some xs=>some ⟨.list false sz xs,true,none,h⟩
 | none=>none
@[go_sem] theorem q9e {sz:Nat} {xs:List AVal} {ps:List (Nat × AVal)}:sliceR sz h xs (some ps)=sliceR.sliceS sz h (qbz xs ps):=rfl
@[go_sem] theorem jac {sz:Nat} {xs:List AVal}:sliceR.sliceS sz h (some xs)=some ⟨.list false sz xs,true,none,h⟩:=rfl
@[go_sem] theorem q8b {sz len:Nat} {zero:List AVal} {ps:List (Nat × qr)}:qc p xc h0 al e h (.buildSlice sz len zero ps)=sliceR sz h (List.replicate len (bif Nat.beq sz 1 then zero.headD .undef else .agg zero)) (zy e sz ps):=by
 simp only [qc,qp,sliceR,sliceR.sliceS]
 cases zy e sz ps with
 | none=>rfl
 | some ps=>simp only []; cases qbz (List.replicate len (bif Nat.beq sz 1 then zero.headD .undef else .agg zero)) ps <;> rfl
def appR (sz bytes:Nat) (h:qm) (own:Option Nat) (x y:Option AVal):Option ORes:=match x,y with
 | some (.list n sz' xs),some vy=>ifR (n || own.isSome) (appS sz bytes h own n sz' xs (yb sz vy))
 | _,_=>none
where appS (sz bytes:Nat) (h:qm) (own:Option Nat) (n:Bool) (sz':Nat) (xs:List AVal) (ys:Option (List AVal)):Option ORes:=match ys with
 | some ys=>ifR ((Nat.beq sz sz' || (xs.isEmpty && n)) && Nat.ble (xs.length + ys.length) 1073741824 && Nat.ble bytes 4096 && Nat.blt 0 sz) (some ⟨qdo n sz xs ys,true,own,h⟩)
 | none=>none
@[go_sem] theorem jhy {sz bytes:Nat} {own:Option Nat} {n:Bool} {sz':Nat} {xs:List AVal} {vy:AVal}:appR sz bytes h own (some (.list n sz' xs)) (some vy)=ifR (n || own.isSome) (appR.appS sz bytes h own n sz' xs (yb sz vy)):=rfl
@[go_sem] theorem jhk {sz bytes:Nat} {own:Option Nat} {n:Bool} {sz':Nat} {xs ys:List AVal}:appR.appS sz bytes h own n sz' xs (some ys)=ifR ((Nat.beq sz sz' || (xs.isEmpty && n)) && Nat.ble (xs.length + ys.length) 1073741824 && Nat.ble bytes 4096 && Nat.blt 0 sz) (some ⟨qdo n sz xs ys,true,own,h⟩):=rfl
@[go_sem] theorem jld {sz bytes:Nat} {x y:qr}:qc p xc h0 al e h (.append none sz bytes x y)=appR sz bytes h (j7 e x) (qh e x) (qh e y):=by
 simp only [qc,qp,appR,appR.appS]
 cases qh e x with
 | none=>rfl
 | some vx=>
  cases vx with
  | list n sz' xs=>
   cases qh e y with
   | none=>rfl
   | some vy=>
    simp only [ifR]
    cases (n || (j7 e x).isSome) with
    | false=>rfl
    | true=>
     simp only [cond_true]
     cases yb sz vy with
     | none=>rfl
     | some ys=>simp only []; cases ((Nat.beq sz sz' || (xs.isEmpty && n)) && Nat.ble (xs.length + ys.length) 1073741824 && Nat.ble bytes 4096 && Nat.blt 0 sz) <;> rfl
  | _=>cases qh e y <;> rfl
@[go_sem] theorem q8l {z:Nat} {f:α→AVal} {l:Option (List α)}:yb z (sl z f l)=some ((l.getD []).map f):=by
 cases l <;> simp [yb,sl]
@[go_sem] theorem jll {z:Nat} {b:Bool} {xs:List AVal}:yb z (.list b z xs)=some xs:=by simp [yb]
@[go_sem] theorem jmc {z z':Nat} {b:Bool}:yb z (.list b z' [])=some []:=by simp [yb]
@[go_sem] theorem q9w {z:Nat} {xs ys:List AVal}:qdo false z xs ys=.list false z (xs++ys):=rfl
@[go_sem] theorem jex {z:Nat} {b:Bool} {xs:List AVal} {y:AVal} {ys:List AVal}:qdo b z xs (y::ys)=.list false z (xs++y::ys):=by cases b <;> rfl
attribute [go_sem] Option.isSome_some Option.isSome_none Bool.or_true Bool.true_or List.isEmpty_nil List.isEmpty_cons Bool.and_false Bool.false_and
def qm8 (h:qm) (i:Nat) (x:Option AVal):Option ORes:=match x with
 | some (.tup vs)=>k9 h vs[i]?
 | _=>none
@[go_sem] theorem q78 {i:Nat} {vs:List AVal}:qm8 h i (some (.tup vs))=k9 h vs[i]?:=rfl
@[go_sem] theorem jh3 {i:Nat} {x:qr}:qc p xc h0 al e h (.extract x i)=qm8 h i (qh e x):=by
 simp only [qc,qp,qm8]
 cases qh e x with
 | none=>rfl
 | some v=>cases v <;> rfl
def un1 (op:UnOp) (h:qm) (x:Option AVal):Option ORes:=match x with
 | some v=>k9 h (qhc op v)
 | none=>none
@[go_sem] theorem jjo {op:UnOp} {v:AVal}:un1 op h (some v)=k9 h (qhc op v):=rfl
@[go_sem] theorem jn8 {op:UnOp} {x:qr}:qc p xc h0 al e h (.un op x)=un1 op h (qh e x):=by
 simp only [qc,qp,un1]
 cases qh e x <;> rfl
@[go_sem] theorem jm5 {b:Bool}:qhc .not (.bool b)=some (.bool (!b)):=rfl
@[go_sem] theorem jm9 {k:IntKind} {n:Int}:qhc .neg (.int k n)=some (.int k (qi k (0 - n))):=rfl
def q2y (neq:Bool) (h:qm) (x y:Option AVal):Option ORes:=match x,y with
 | some (.bool a),some (.bool b)=>val h (.bool (bif neq then !(a == b) else a == b))
 | _,_=>none
@[go_sem] theorem jhf {neq a b:Bool}:q2y neq h (some (.bool a)) (some (.bool b))=some ⟨.bool (bif neq then !(a == b) else a == b),false,none,h⟩:=rfl
@[go_sem] theorem jn2 {neq:Bool} {x y:qr}:qc p xc h0 al e h (.beq neq x y)=q2y neq h (qh e x) (qh e y):=by
 simp only [qc,qp,q2y]
 cases qh e x with
 | none=>rfl
 | some v=>cases v <;> cases qh e y <;> rfl
def qp0 (f:Fn) (h:qm) (a b:Option (List AVal)):Option ORes:=match a,b with
 | some a,some b=>val h (.fn f a b)
 | _,_=>none
@[go_sem] theorem q62 {f:Fn} {a b:List AVal}:qp0 f h (some a) (some b)=some ⟨.fn f a b,false,none,h⟩:=rfl
@[go_sem] theorem jjg {f:Fn} {a b:List qr}:qc p xc h0 al e h (.mkfunc f a b)=qp0 f h (yn e a) (yn e b):=by
 simp only [qc,qp,qp0]
 cases yn e a <;> cases yn e b <;> rfl
def mxR (f:AVal→AVal→Option AVal) (h:qm) (l:Option (List AVal)):Option ORes:=match l with
 | some (v::vs)=>k9 h (qb2 f v vs)
 | _=>none
@[go_sem] theorem jl2 {f:AVal→AVal→Option AVal} {v:AVal} {vs:List AVal}:mxR f h (some (v::vs))=k9 h (qb2 f v vs):=rfl
@[go_sem] theorem jn6 {l:List qr}:qc p xc h0 al e h (.mx l)=mxR max2 h (yn e l):=by
 simp only [qc,qp,mxR]
 cases yn e l with
 | none=>rfl
 | some vs=>cases vs <;> rfl
@[go_sem] theorem jn7 {l:List qr}:qc p xc h0 al e h (.mn l)=mxR min2 h (yn e l):=by
 simp only [qc,qp,mxR]
 cases yn e l with
 | none=>rfl
 | some vs=>cases vs <;> rfl
def qxw (f:AVal→AVal→Option AVal) (x:Option AVal) (l:List AVal):Option AVal:=match x with
 | some z=>qb2 f z l
 | none=>none
@[go_sem] theorem jeb {f:AVal→AVal→Option AVal} {x:AVal} {l:List AVal}:qxw f (some x) l=qb2 f x l:=rfl
@[go_sem] theorem jhl {f:AVal→AVal→Option AVal} {x:AVal}:qb2 f x []=some x:=rfl
@[go_sem] theorem jcv {f:AVal→AVal→Option AVal} {x y:AVal} {l:List AVal}:qb2 f x (y::l)=qxw f (f x y) l:=by
 simp only [qb2,qxw]; rfl
@[go_sem] theorem jlj {k:IntKind} {x y:Int}:max2 (.int k x) (.int k y)=some (.int k (max x y)):=by
 simp only [max2,decide_true,cond_true]
 congr 2
 by_cases h:y > x
 ·rw [if_pos h]; omega
 ·rw [if_neg h]; omega
@[go_sem] theorem jkc {k:IntKind} {x y:Int}:min2 (.int k x) (.int k y)=some (.int k (min x y)):=by
 simp only [min2,decide_true,cond_true]
 congr 2
 by_cases h:y < x
 ·rw [if_pos h]; omega
 ·rw [if_neg h]; omega
def qzh (k:Nat) (neq:Bool) (h:qm) (x:Option AVal):Option ORes:=match k,x with
  | 0,some (.list n _ _)=>val h (.bool (bif neq then !n else n))
  | 0,some (.ms ..)=>val h (.bool neq)
  | 1,some .nilptr=>val h (.bool (!neq))
  | 1,some (.ptr ..)=>val h (.bool neq)
  | 1,some (.vptr ..)=>val h (.bool neq)
  | 2,some .nilmap=>val h (.bool (!neq))
  | 2,some (.map ..)=>val h (.bool neq)
  | 3,some .nilfn=>val h (.bool (!neq))
  | 3,some (.fn ..)=>val h (.bool neq)
  | _,_=>none
@[go_sem] theorem jms {k:Nat} {neq:Bool} {x:qr}:qc p xc h0 al e h (.nilEq k neq x)=qzh k neq h (qh e x):=rfl
@[go_sem] theorem jbb {neq n:Bool} {z:Nat} {xs:List AVal}:qzh 0 neq h (some (.list n z xs))=some ⟨.bool (bif neq then !n else n),false,none,h⟩:=rfl
@[go_sem] theorem jh7 {n:Nat} {k:IntKind} {i:Int}:below n (.int k i)=true:=rfl
@[go_sem] theorem jeu {n:Nat} {b:Bool}:below n (.bool b)=true:=rfl
@[go_sem] theorem jhw {n:Nat} {s:List UInt8}:below n (.str s)=true:=rfl
@[go_sem] theorem jgd {n:Nat} {b:Bool} {z:Nat} {xs:List AVal}:below n (.list b z xs)=ju n xs:=by simp only [below]
@[go_sem] theorem jgm {n:Nat} {xs:List AVal}:below n (.agg xs)=ju n xs:=by simp only [below]
@[go_sem] theorem jha {n:Nat} {xs:List AVal}:below n (.tup xs)=ju n xs:=by simp only [below]
@[go_sem] theorem jh5 {n b o:Nat}:below n (.ptr b o)=decide (b < n):=by simp only [below,qbx]
@[go_sem] theorem jgu {n b:Nat}:below n (.map b)=decide (b < n):=by simp only [below,qbx]
@[go_sem] theorem jk4 {n k:Nat} {a b:List AVal}:below n (.fn (.func k) a b)=(ju n a && ju n b):=by simp only [below]
@[go_sem] theorem jep {n:Nat}:ju n []=true:=by simp only [ju]
@[go_sem] theorem qu8 {n:Nat} {x:AVal} {xs:List AVal}:ju n (x::xs)=(below n x && ju n xs):=by simp only [ju]
@[go_sem] theorem jd8 {n:Nat} {i:Int}:below n (jo i)=true:=rfl
@[go_sem] theorem jee {n z:Nat} {l:Option (List Int)}:below n (sl z jo l)=true:=qjl fun _=>rfl
theorem qos {n:Nat} {f:α→AVal} (hf:∀ x,below n (f x)=true):∀ l:List α,ju n (l.map f)=true
 | []=>rfl
 | x::l=>by rw [List.map_cons,qu8,hf,qos hf l]; rfl
@[go_sem] theorem q90 {n:Nat} {l:List Int}:ju n (l.map jo)=true:=qos (fun _=>rfl) l
@[go_sem] theorem jl9 {k:IntKind} {i:Int}:ky h (.int k i)=some (.int k i):=rfl
@[go_sem] theorem ji9 {b:Bool}:ky h (.bool b)=some (.bool b):=rfl
@[go_sem] theorem jmi {s:List UInt8}:ky h (.str s)=some (.str s):=rfl
@[go_sem] theorem jje {b:Bool} {z:Nat} {xs:List AVal}:ky h (.list b z xs)=some (.list b z xs):=rfl
@[go_sem] theorem q7w {z:Nat} {f:α→AVal} {l:Option (List α)}:ky h (sl z f l)=some (sl z f l):=by cases l <;> rfl
@[go_sem] theorem jlq:k8 h []=some []:=rfl
@[go_sem] theorem jht {v:AVal} {vs:List AVal}:k8 h (v::vs)=qc0 (ky h v) (k8 h vs):=by
 simp only [k8,qc0]
 cases ky h v with
 | none=>rfl
 | some x=>cases k8 h vs <;> rfl
def qyk (l:Option (List AVal)):Option AVal:=match l with
 | some xs=>some (.agg xs)
 | none=>none
@[go_sem] theorem jgr {xs:List AVal}:qyk (some xs)=some (.agg xs):=rfl
@[go_sem] theorem jls {cs:List AVal}:freezeR h (.agg cs)=qyk (k8 h cs):=by
 simp only [freezeR,qyk]
 cases k8 h cs <;> rfl
@[go_sem] theorem jki {k:IntKind} {i:Int}:freezeR h (.int k i)=some (.int k i):=rfl
@[go_sem] theorem jg3 {b:Bool}:freezeR h (.bool b)=some (.bool b):=rfl
@[go_sem] theorem jju {s:List UInt8}:freezeR h (.str s)=some (.str s):=rfl
@[go_sem] theorem jhg {b:Bool} {z:Nat} {xs:List AVal}:freezeR h (.list b z xs)=some (.list b z xs):=rfl
@[go_sem] theorem jmv {z:Nat} {f:α→AVal} {l:Option (List α)}:freezeR h (sl z f l)=some (sl z f l):=by cases l <;> rfl
def q11 (l:Option (List AVal)):Option AVal:=match l with
 | some xs=>some (.tup xs)
 | none=>none
@[go_sem] theorem jgj {xs:List AVal}:q11 (some xs)=some (.tup xs):=rfl
@[go_sem] theorem jj4 {cs:List AVal}:freezeR h (.tup cs)=q11 (freezeR.freezeT h cs):=by
 simp only [freezeR,q11]
 cases freezeR.freezeT h cs <;> rfl
@[go_sem] theorem ji8:freezeR.freezeT h []=some []:=rfl
@[go_sem] theorem jjt {cs vs:List AVal}:freezeR.freezeT h (.agg cs::vs)=qc0 (qyk (k8 h cs)) (freezeR.freezeT h vs):=by
 rw [freezeR.freezeT]
 cases k8 h cs with
 | none=>rfl
 | some x=>cases freezeR.freezeT h vs <;> rfl
theorem qgg {v:AVal} {vs:List AVal} (hv:v.isAgg=false):freezeR.freezeT h (v::vs)=qc0 (ky h v) (freezeR.freezeT h vs):=by
 have:∀ cs,v ≠ .agg cs:=fun cs hc=>by rw [hc] at hv; cases hv
 rw [freezeR.freezeT]
 ·cases ky h v with
  | none=>rfl
  | some x=>cases freezeR.freezeT h vs <;> rfl
 ·exact this
@[go_sem] theorem jk2 {k:IntKind} {i:Int} {vs:List AVal}:freezeR.freezeT h (.int k i::vs)=qc0 (some (.int k i)) (freezeR.freezeT h vs):=qgg rfl
@[go_sem] theorem jh0 {b:Bool} {vs:List AVal}:freezeR.freezeT h (.bool b::vs)=qc0 (some (.bool b)) (freezeR.freezeT h vs):=qgg rfl
@[go_sem] theorem jiz {s:List UInt8} {vs:List AVal}:freezeR.freezeT h (.str s::vs)=qc0 (some (.str s)) (freezeR.freezeT h vs):=qgg rfl
@[go_sem] theorem jgn {b:Bool} {z:Nat} {xs vs:List AVal}:freezeR.freezeT h (.list b z xs::vs)=qc0 (some (.list b z xs)) (freezeR.freezeT h vs):=qgg rfl
@[go_sem] theorem jmb {z:Nat} {f:α→AVal} {l:Option (List α)} {vs:List AVal}:freezeR.freezeT h (sl z f l::vs)=qc0 (some (sl z f l)) (freezeR.freezeT h vs):=by
 rw [qgg (by cases l <;> rfl),q7w]
attribute [go_sem] List.contains_cons List.contains_nil
@[go_sem] theorem jmm {a b:Nat}:(a == b)=decide (a=b):=by
 by_cases hab:a=b <;> simp [hab]
def qnv (agg:Bool) (c:Option (AVal × Bool)) (vs:Option (List AVal)):Option (AVal × Bool):=match vs,agg with
 | some vs,true=>some (.agg vs,false)
 | some _,false=>c
 | none,_=>none
@[go_sem] theorem jhn {c:Option (AVal × Bool)} {vs:List AVal}:qnv true c (some vs)=some (.agg vs,false):=rfl
@[go_sem] theorem jgp {c:Option (AVal × Bool)} {vs:List AVal}:qnv false c (some vs)=c:=rfl
def qru (agg:Bool) (o n:Nat) (cs:Option (List (AVal × Bool))):Option (AVal × Bool):=match cs with
 | some cs=>qnv agg cs[o]? (yi cs o n)
 | none=>none
@[go_sem] theorem jf4 {agg:Bool} {o n:Nat} {cs:List (AVal × Bool)}:qru agg o n (some cs)=qnv agg cs[o]? (yi cs o n):=rfl
def qyl (agg:Bool) (n:Nat) (h:qm) (x:Option (AVal × Bool)):Option (AVal × Bool):=match x with
 | some (.ptr b o,_)=>qru agg o n (js h b)
 | _=>none
@[go_sem] theorem jg0 {agg:Bool} {n b o:Nat} {w:Bool}:qyl agg n h (some (.ptr b o,w))=qru agg o n (js h b):=rfl
@[go_sem] theorem q50 {t n:Nat} {agg:Bool}:qbc ⟨e,h⟩ (.cell t agg n)=qyl agg n h (ji t e):=by
 simp only [qbc,qyl]
 cases ji t e with
 | none=>rfl
 | some x=>
  obtain ⟨v,w⟩:=x
  cases v with
  | ptr b o=>
   simp only [qru]
   cases js h b with
   | none=>rfl
   | some cs=>
    simp only [qnv]
    cases yi cs o n with
    | none=>rfl
    | some vs=>cases agg with
     | true=>rfl
     | false=>simp only [cond_false]; cases cs[o]? <;> rfl
  | _=>rfl
theorem jj {k:Nat} {args:List AVal} {v v':AVal} {o:Bool} (hp:p.prims k=none) (hc:ja p xc k args []=some (v,o,h)) (hz:freezeR h v=some v') (hv:below 0 v'=true):qd p xc k args=some (v',o && v.isList):=by
 unfold qd
 rw [hp]
 simp only [hc,hz,qck,hv,cond_true]
end
end Go.Abs
