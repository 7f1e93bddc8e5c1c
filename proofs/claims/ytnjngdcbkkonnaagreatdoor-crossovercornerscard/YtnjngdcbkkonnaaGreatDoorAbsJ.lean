/- Equations of the executor, second part. -/
import Derived.Test.YtnjngdcbkkonnaaGreatDoorAbsI
set_option linter.unusedVariables false
set_option linter.unusedSimpArgs false
namespace Go.Abs
section
variable {p:ju} {xc:XC} {h0:Nat} {al:Option (List Nat)} {e:Env} {h:qk} {α:Type}
attribute [go_sem] List.getElem?_cons_zero List.getElem?_cons_succ List.getElem?_nil List.set_cons_zero List.set_cons_succ List.set_nil List.cons_append List.replicate_zero List.replicate_succ List.map_cons List.map_nil List.all_cons List.all_nil List.drop_zero List.drop_succ_cons List.take_zero List.take_succ_cons List.drop_nil List.take_nil Bool.and_true Bool.true_and Bool.or_false Bool.false_or Bool.and_self List.headD_cons List.foldl_cons List.foldl_nil List.flatMap_cons List.flatMap_nil
@[go_sem] theorem juz {k:IntKind} {n:Int}:qp (.int k n)=true:=rfl
@[go_sem] theorem jug {b:Bool}:qp (.bool b)=true:=rfl
@[go_sem] theorem ju0 {s:List UInt8}:qp (.str s)=true:=rfl
@[go_sem] theorem juo {b:Bool} {z:Nat} {xs:List AVal}:qp (.list b z xs)=true:=rfl
@[go_sem] theorem jvq {b o n:Nat}:qp (.ms b o n)=true:=rfl
@[go_sem] theorem jux {b o:Nat}:qp (.ptr b o)=true:=rfl
@[go_sem] theorem ju5 {b:Nat}:qp (.map b)=true:=rfl
@[go_sem] theorem jo6:qp .nilptr=true:=rfl
@[go_sem] theorem jn1:qp .nilmap=true:=rfl
@[go_sem] theorem jqr:qp .nilfn=true:=rfl
@[go_sem] theorem jvp {f:Fn} {a b:List AVal}:qp (.fn f a b)=true:=rfl
@[go_sem] theorem jvh {z:Nat} {f:α→AVal} {l:Option (List α)}:qp (sl z f l)=true:=by cases l <;> rfl
@[go_sem] theorem jts {cs:List AVal}:AVal.flat (.agg cs)=cs:=rfl
@[go_sem] theorem jq0 {k:IntKind} {n:Int}:AVal.flat (.int k n)=[.int k n]:=rfl
@[go_sem] theorem jo2 {b:Bool}:AVal.flat (.bool b)=[.bool b]:=rfl
@[go_sem] theorem jrf {s:List UInt8}:AVal.flat (.str s)=[.str s]:=rfl
@[go_sem] theorem joz {b:Bool} {z:Nat} {xs:List AVal}:AVal.flat (.list b z xs)=[.list b z xs]:=rfl
@[go_sem] theorem jui {z:Nat} {f:α→AVal} {l:Option (List α)}:AVal.flat (sl z f l)=[sl z f l]:=by cases l <;> rfl
@[go_sem] theorem jqm {b o:Nat}:AVal.flat (.ptr b o)=[.ptr b o]:=rfl
@[go_sem] theorem jqt {b:Nat}:AVal.flat (.map b)=[.map b]:=rfl
@[go_sem] theorem jue {f:Fn} {a b:List AVal}:AVal.flat (.fn f a b)=[.fn f a b]:=rfl
@[go_sem] theorem jt3 {b o n:Nat}:AVal.flat (.ms b o n)=[.ms b o n]:=rfl
@[go_sem] theorem qom {a b:Nat}:Nat.beq a b=decide (a=b):=by
 cases h:Nat.beq a b with
 | true=>have:=Nat.eq_of_beq_eq_true h; simp [this]
 | false=>
  have:a ≠ b:=fun hh=>by subst hh; simp at h
  simp [this]
@[go_sem] theorem qaw {a b:Nat}:Nat.ble a b=decide (a≤b):=by
 cases h:Nat.ble a b with
 | true=>have:=Nat.le_of_ble_eq_true h; simp [this]
 | false=>
  have:¬ a≤b:=fun hh=>by rw [Nat.ble_eq_true_of_le hh] at h; cases h
  simp [this]
@[go_sem] theorem qcx {a b:Nat}:Nat.blt a b=decide (a < b):=by
 show Nat.ble (a + 1) b=_
 rw [qaw]; rfl
@[go_sem] theorem joe {b:Nat}:j8 h0 none b=true:=rfl
@[go_sem] theorem jun:exl []=false:=rfl
@[go_sem] theorem jto {k:Nat} {l:List Nat}:exl (k::l)=decide (1000≤k):=by simp only [exl,qaw]
@[go_sem] theorem jps {k b:Nat} {l:List Nat}:exq h0 (k::l) b=cond (decide (k < 2000)) (decide (b=k - 1000) && decide (b < h0)) (decide (b=h0 + (k - 2000))):=by
 have e:∀ x y:Nat,Nat.beq x y=decide (x=y):=fun x y=>by
  cases h:Nat.beq x y with
  | true=>rw [Nat.eq_of_beq_eq_true h]; simp
  | false=>
   have:x ≠ y:=fun e=>by rw [e,Nat.beq_refl] at h; cases h
   simp [this]
 simp only [exq,qcx,e]
@[go_sem] theorem jhe {b:Nat} {l:List Nat}:j8 h0 (some l) b=cond (exl l) (exq h0 l b) (decide (b < h0) || l.contains (b - h0)):=by simp only [j8,qcx]
def qas (r:Option qk) (v:AVal):Option ORes:=match r with
 | some h'=>some ⟨v,false,none,h'⟩
 | none=>none
@[go_sem] theorem jpj {v:AVal}:qas (some h) v=some ⟨v,false,none,h⟩:=rfl
@[go_sem] theorem jnq {h0 r:Nat} {es:List (AVal × AVal)}:q29 h0 r h true (some es)=qas (newBox h0 h r (.map es)) (.map (h0 + r)):=rfl
def q8k (n:Nat) (h:qk) (b:Option ABox) (x:ABox):Option qk:=match b with
 | some .hole=>some (h.set n x)
 | _=>none
@[go_sem] theorem jpq {n:Nat} {x:ABox}:q8k n h (some .hole) x=some (h.set n x):=rfl
@[go_sem] theorem jo5 {r:Nat} {x:ABox}:newBox h0 h r x=q8k (h0 + r) h h[h0 + r]? x:=by
 unfold newBox q8k; rfl
def ifR (b:Bool) (r:Option ORes):Option ORes:=match b with
 | true=>r
 | false=>none
@[go_sem] theorem jq5 {r:Option ORes}:ifR true r=r:=rfl
@[go_sem] theorem jt5 {r:Nat} {z:List AVal}:qg p xc h0 al e h (.alloc r z)=ifR (z.all qp) (qas (newBox h0 h r (.cells (cellsOf z))) (.ptr (h0 + r) 0)):=by
 simp only [qg,qw,ifR]
 cases z.all qp with
 | false=>rfl
 | true=>simp only [cond_true,qas]; cases newBox h0 h r (.cells (cellsOf z)) <;> rfl
def q14 (n:Nat) (h:qk) (x:Option AVal):Option ORes:=match x with
 | some v=>ifR (Nat.beq v.flat.length n && v.flat.all qp) (some ⟨.vptr v,false,none,h⟩)
 | none=>none
@[go_sem] theorem jnj {n:Nat} {v:AVal}:q14 n h (some v)=ifR (Nat.beq v.flat.length n && v.flat.all qp) (some ⟨.vptr v,false,none,h⟩):=rfl
@[go_sem] theorem ju8 {n:Nat} {x:qu}:qg p xc h0 al e h (.vbox n x)=q14 n h (ql e x):=by
 simp only [qg,qr,q14]
 cases ql e x with
 | none=>rfl
 | some v=>
  simp only [ifR]
  cases (Nat.beq v.flat.length n && v.flat.all qp) <;> rfl
def q8g (h0 r n:Nat) (h:qk) (x:Option AVal):Option ORes:=match x with
 | some v=>ifR (Nat.beq v.flat.length n && v.flat.all qp) (qas (newBox h0 h r (.cells (cellsOf v.flat))) (.ptr (h0 + r) 0))
 | none=>none
@[go_sem] theorem jpi {r n:Nat} {v:AVal}:q8g h0 r n h (some v)=ifR (Nat.beq v.flat.length n && v.flat.all qp) (qas (newBox h0 h r (.cells (cellsOf v.flat))) (.ptr (h0 + r) 0)):=rfl
@[go_sem] theorem jvc {r n:Nat} {x:qu}:qg p xc h0 al e h (.box r n x)=q8g h0 r n h (ql e x):=by
 simp only [qg,qw,q8g]
 cases ql e x with
 | none=>rfl
 | some v=>
  simp only [ifR,qas]
  cases (Nat.beq v.flat.length n && v.flat.all qp) with
  | false=>rfl
  | true=>simp only [cond_true]; cases newBox h0 h r (.cells (cellsOf v.flat)) <;> rfl
@[go_sem] theorem q90 {r:Nat}:qg p xc h0 al e h (.mkmap r)=qas (newBox h0 h r (.map [])) (.map (h0 + r)):=by
 simp only [qg,qw,qas]
 cases newBox h0 h r (.map []) <;> rfl
@[go_sem] theorem jgb:cellsOf []=[]:=rfl
@[go_sem] theorem jeb {v:AVal} {vs:List AVal}:cellsOf (v::vs)=(v,false)::cellsOf vs:=rfl
def qen (agg:Bool) (h:qk) (r:Option AVal):Option ORes:=match r with
 | some v=>bif Bool.xor agg v.isAgg then none else val h (.vptr v)
 | none=>none
def qe4 (agg:Bool) (off n:Nat) (h:qk) (x:Option AVal):Option ORes:=match x with
 | some (.ptr b o)=>val h (.ptr b (o + off))
 | some (.vptr (.agg cs))=>qen agg h (part agg cs off n)
 | _=>none
@[go_sem] theorem jce {agg:Bool} {off n b o:Nat}:qe4 agg off n h (some (.ptr b o))=some ⟨.ptr b (o + off),false,none,h⟩:=rfl
@[go_sem] theorem ja6 {agg:Bool} {off n:Nat} {cs:List AVal}:qe4 agg off n h (some (.vptr (.agg cs)))=qen agg h (part agg cs off n):=rfl
@[go_sem] theorem jgm {agg:Bool} {off n:Nat} {x:qu}:qg p xc h0 al e h (.fieldAddr agg off n x)=qe4 agg off n h (ql e x):=by
 simp only [qg,qr,qe4]
 cases ql e x with
 | none=>rfl
 | some v=>cases v with
  | vptr v=>cases v <;> rfl
  | _=>rfl
def ju6 (v:AVal):Prop:=v.isAgg=false
theorem jno {v:AVal} (hv:v.isAgg=false):qen false h (some v)=some ⟨.vptr v,false,none,h⟩:=by simp [qen,hv,val]
@[go_sem] theorem jnt {k:IntKind} {n:Int}:qen false h (some (.int k n))=some ⟨.vptr (.int k n),false,none,h⟩:=rfl
@[go_sem] theorem jo8 {s:List UInt8}:qen false h (some (.str s))=some ⟨.vptr (.str s),false,none,h⟩:=rfl
@[go_sem] theorem jjk {b:Bool}:qen false h (some (.bool b))=some ⟨.vptr (.bool b),false,none,h⟩:=rfl
@[go_sem] theorem jq9 {z:Nat} {f:α→AVal} {l:Option (List α)}:qen false h (some (sl z f l))=some ⟨.vptr (sl z f l),false,none,h⟩:=by cases l <;> rfl
@[go_sem] theorem jox {cs:List AVal}:qen true h (some (.agg cs))=some ⟨.vptr (.agg cs),false,none,h⟩:=rfl
@[go_sem] theorem jtj {cs:List AVal} {off n:Nat}:part false cs off n=cs[off]?:=rfl
def q3a (b:Bool) (cs:List AVal) (off n:Nat):Option AVal:=match b with
 | true=>some (.agg ((cs.drop off).take n))
 | false=>none
@[go_sem] theorem ji2 {cs:List AVal} {off n:Nat}:q3a true cs off n=some (.agg ((cs.drop off).take n)):=rfl
@[go_sem] theorem jtv {cs:List AVal} {off n:Nat}:part true cs off n=q3a (decide (off + n≤cs.length)) cs off n:=by
 simp only [part,q3a,cond_true,qaw]
 cases decide (off + n≤cs.length) <;> rfl
@[go_sem] theorem jsl {z:Nat} {f:α→AVal} {l:Option (List α)}:qa9 h0 al false 1 h (some (.vptr (sl z f l)))=some ⟨sl z f l,false,none,h⟩:=by cases l <;> rfl
def q66 (h:qk) (cs:List AVal) (b:Bool):Option ORes:=match b with
 | true=>some ⟨.agg cs,false,none,h⟩
 | false=>none
@[go_sem] theorem jnu {cs:List AVal}:q66 h cs true=some ⟨.agg cs,false,none,h⟩:=rfl
@[go_sem] theorem jk9 {n:Nat} {cs:List AVal}:qa9 h0 al true n h (some (.vptr (.agg cs)))=q66 h cs (decide (cs.length=n)):=by
 unfold q66
 by_cases hn:cs.length=n
 ·rw [q5m hn]; simp [hn]
 ·simp [qa9,AVal.isAgg,AVal.flat,hn,qom]
def qv0 (agg:Bool) (h:qk) (vs:Option (List AVal)):Option ORes:=match vs with
 | some vs=>bif agg then val h (.agg vs) else (match vs with
  | [v]=>val h v
  | _=>none)
 | none=>none
@[go_sem] theorem jth {vs:List AVal}:qv0 true h (some vs)=some ⟨.agg vs,false,none,h⟩:=rfl
@[go_sem] theorem jsv {v:AVal}:qv0 false h (some [v])=some ⟨v,false,none,h⟩:=rfl
def qx9 (b:Option ABox):Option (List (AVal × Bool)):=match b with
 | some (.cells cs)=>some cs
 | _=>none
@[go_sem] theorem jf6 {cs:List (AVal × Bool)}:qx9 (some (.cells cs))=some cs:=rfl
@[go_sem] theorem jg5 {b:Nat}:jq h b=qx9 h[b]?:=by unfold jq qx9; rfl
def ldC (b:Bool) (cs:List (AVal × Bool)) (off n:Nat):Option (List AVal):=match b with
 | true=>some (((cs.drop off).take n).map (·.1))
 | false=>none
@[go_sem] theorem jql {cs:List (AVal × Bool)} {off n:Nat}:ldC true cs off n=some (((cs.drop off).take n).map (·.1)):=rfl
@[go_sem] theorem jc9 {cs:List (AVal × Bool)} {off n:Nat}:kj cs off n=ldC (decide (off + n≤cs.length)) cs off n:=by
 simp only [kj,ldC,qaw]
 cases decide (off + n≤cs.length) <;> rfl
def q7f (agg:Bool) (o n:Nat) (h:qk) (cs:Option (List (AVal × Bool))):Option ORes:=match cs with
 | some cs=>qv0 agg h (kj cs o n)
 | none=>none
@[go_sem] theorem jo9 {agg:Bool} {o n:Nat} {cs:List (AVal × Bool)}:q7f agg o n h (some cs)=qv0 agg h (kj cs o n):=rfl
@[go_sem] theorem jpe {agg:Bool} {n b o:Nat}:qa9 h0 al agg n h (some (.ptr b o))=ifR (j8 h0 al b) (q7f agg o n h (jq h b)):=by
 simp only [qa9,ifR,q7f,qv0]
 cases j8 h0 al b with
 | false=>rfl
 | true=>
  simp only [cond_true]
  cases jq h b with
  | none=>rfl
  | some cs=>simp only []; cases kj cs o n <;> rfl
def qvk (r:Option qk) (v:AVal) (w:Bool):Option ORes:=match r with
 | some h'=>some ⟨v,w,none,h'⟩
 | none=>none
@[go_sem] theorem jhm {v:AVal} {w:Bool}:qvk (some h) v w=some ⟨v,w,none,h⟩:=rfl
def qvn (h:qk) (b o:Nat) (cs:List (AVal × Bool)) (x:Option (AVal × Bool)):Option ORes:=match x with
 | some (v,w)=>qvk (jz h b (.cells (cs.set o (v,false)))) v w
 | none=>none
@[go_sem] theorem jld {b o:Nat} {cs:List (AVal × Bool)} {v:AVal} {w:Bool}:qvn h b o cs (some (v,w))=qvk (jz h b (.cells (cs.set o (v,false)))) v w:=rfl
def qvu (h:qk) (b o:Nat) (cs:Option (List (AVal × Bool))):Option ORes:=match cs with
 | some cs=>qvn h b o cs cs[o]?
 | none=>none
@[go_sem] theorem jih {b o:Nat} {cs:List (AVal × Bool)}:qvu h b o (some cs)=qvn h b o cs cs[o]?:=rfl
def qoc (h0:Nat) (al:Option (List Nat)) (off:Option Nat) (h:qk) (x:Option AVal):Option ORes:=match x with
 | some (.ptr b o)=>ifR (j8 h0 al b && qf0 off o) (qvu h b o (jq h b))
 | _=>none
@[go_sem] theorem jb5 {off:Option Nat} {b o:Nat}:qoc h0 al off h (some (.ptr b o))=ifR (j8 h0 al b && qf0 off o) (qvu h b o (jq h b)):=rfl
@[go_sem] theorem jkc {o:Nat}:qf0 none o=true:=rfl
@[go_sem] theorem jim {a o:Nat}:qf0 (some a) o=decide (a=o):=by simp only [qf0,qom]
@[go_sem] theorem jlp {off:Option Nat} {x:qu}:qg p xc h0 al e h (.loadTake off x)=qoc h0 al off h (ql e x):=by
 simp only [qg,qw,qoc]
 cases ql e x with
 | none=>rfl
 | some v=>cases v with
  | ptr b o=>
   simp only [ifR,qvu,qvn,qvk]
   cases (j8 h0 al b && qf0 off o) with
   | false=>rfl
   | true=>
    simp only [cond_true]
    cases jq h b with
    | none=>rfl
    | some cs=>
     simp only []
     cases cs[o]? with
     | none=>rfl
     | some c=>
      obtain ⟨v,w⟩:=c
      simp only []
      cases jz h b (.cells (cs.set o (v,false))) <;> rfl
  | _=>rfl
def q60 (b:Bool) (n:Nat) (x:ABox) (h:qk):Option qk:=match b with
 | true=>some (h.set n x)
 | false=>none
@[go_sem] theorem jou {n:Nat} {x:ABox}:q60 true n x h=some (h.set n x):=rfl
@[go_sem] theorem joy {b:Nat} {x:ABox}:jz h b x=q60 (decide (b < h.length)) b x h:=by
 simp only [jz,q60,qcx]
 cases decide (b < h.length) <;> rfl
def stC (b:Bool) (cs:List (AVal × Bool)) (off:Nat) (vs:List AVal):Option (List (AVal × Bool)):=match b with
 | true=>some (cs.take off++vs.map (·,false)++cs.drop (off + vs.length))
 | false=>none
@[go_sem] theorem q7r {cs:List (AVal × Bool)} {off:Nat} {vs:List AVal}:stC true cs off vs=some (cs.take off++vs.map (·,false)++cs.drop (off + vs.length)):=rfl
@[go_sem] theorem qu9 {cs:List (AVal × Bool)} {off:Nat} {vs:List AVal}:yc cs off vs=stC (decide (off + vs.length≤cs.length) && vs.all qp) cs off vs:=by
 simp only [yc,stC,qaw]
 cases (decide (off + vs.length≤cs.length) && vs.all qp) <;> rfl
def jv4 (e:Env) (x:qu):Option Nat:=zh e x
def q2z (t:Nat) (x:Option (AVal × Bool)):Option Nat:=match x with
 | some (_,true)=>some t
 | _=>none
@[go_sem] theorem jns {t:Nat} {v:AVal}:q2z t (some (v,true))=some t:=rfl
@[go_sem] theorem jmx {t:Nat} {v:AVal}:q2z t (some (v,false))=none:=rfl
@[go_sem] theorem jpl {t:Nat}:zh e (.tmp t)=q2z t (jp t e):=by
 simp only [zh,q2z]; rfl
@[go_sem] theorem jgo {v:AVal}:zh e (.const v)=none:=rfl
def qoh (h:qk) (b:Nat) (cs:Option (List (AVal × Bool))):Option ORes:=match cs with
 | some cs'=>qas (jz h b (.cells cs')) .undef
 | none=>none
@[go_sem] theorem jdc {b:Nat} {cs:List (AVal × Bool)}:qoh h b (some cs)=qas (jz h b (.cells cs)) .undef:=rfl
def qvi (t:Nat) (r:Option qk):Option ORes:=match r with
 | some h'=>some ⟨.undef,false,some t,h'⟩
 | none=>none
@[go_sem] theorem jl2 {t:Nat}:qvi t (some h)=some ⟨.undef,false,some t,h⟩:=rfl
def qng (n:Nat) (h:qk) (b o:Nat) (v:AVal) (own:Option Nat) (cs:Option (List (AVal × Bool))):Option ORes:=match cs,own with
 | some cs,some t=>ifR (Nat.beq n 1 && v.isList && Nat.blt o cs.length) (qvi t (jz h b (.cells (cs.set o (v,true)))))
 | some cs,none=>ifR (Nat.beq v.flat.length n) (qoh h b (yc cs o v.flat))
 | none,_=>none
@[go_sem] theorem jiy {n b o t:Nat} {v:AVal} {cs:List (AVal × Bool)}:qng n h b o v (some t) (some cs)=ifR (Nat.beq n 1 && v.isList && Nat.blt o cs.length) (qvi t (jz h b (.cells (cs.set o (v,true))))):=rfl
@[go_sem] theorem jdd {n b o:Nat} {v:AVal} {cs:List (AVal × Bool)}:qng n h b o v none (some cs)=ifR (Nat.beq v.flat.length n) (qoh h b (yc cs o v.flat)):=rfl
def qwj (h0:Nat) (al:Option (List Nat)) (n:Nat) (h:qk) (own:Option Nat) (a x:Option AVal):Option ORes:=match a,x with
 | some (.ptr b o),some v=>ifR (j8 h0 al b) (qng n h b o v own (jq h b))
 | _,_=>none
@[go_sem] theorem ji7 {n b o:Nat} {own:Option Nat} {v:AVal}:qwj h0 al n h own (some (.ptr b o)) (some v)=ifR (j8 h0 al b) (qng n h b o v own (jq h b)):=rfl
@[go_sem] theorem jup {n:Nat} {a x:qu}:qg p xc h0 al e h (.store n a x)=qwj h0 al n h (zh e x) (ql e a) (ql e x):=by
 simp only [qg,qw,qwj]
 cases ql e a with
 | none=>rfl
 | some va=>
  cases va with
  | ptr b o=>
   cases ql e x with
   | none=>rfl
   | some v=>
    simp only [ifR]
    cases j8 h0 al b with
    | false=>rfl
    | true=>
     simp only [cond_true]
     cases jq h b with
     | none=>rfl
     | some cs=>
      simp only [qng]
      cases zh e x with
      | none=>
       simp only [ifR,qoh,qas]
       cases Nat.beq v.flat.length n with
       | false=>rfl
       | true=>
        simp only [cond_true]
        cases yc cs o v.flat with
        | none=>rfl
        | some cs'=>simp only []; cases jz h b (.cells cs') <;> rfl
      | some t=>
       simp only [ifR,qvi]
       cases (Nat.beq n 1 && v.isList && Nat.blt o cs.length) with
       | false=>rfl
       | true=>simp only [cond_true]; cases jz h b (.cells (cs.set o (v,true))) <;> rfl
  | _=>rfl
@[go_sem] theorem jga {b:Bool} {z:Nat} {xs:List AVal}:AVal.isList (.list b z xs)=true:=rfl
@[go_sem] theorem jpg {z:Nat} {f:α→AVal} {l:Option (List α)}:AVal.isList (sl z f l)=true:=by cases l <;> rfl
def qsa (b:Bool) (off:Nat) (vs:List AVal) (l:Option (List (Nat × List AVal))):Option (List (Nat × List AVal)):=match b,l with
 | true,some r=>some ((off,vs)::r)
 | _,_=>none
@[go_sem] theorem jgr {off:Nat} {vs:List AVal} {r:List (Nat × List AVal)}:qsa true off vs (some r)=some ((off,vs)::r):=rfl
def qx5 (x:Option AVal) (off n:Nat) (l:Option (List (Nat × List AVal))):Option (List (Nat × List AVal)):=match x with
 | some v=>qsa (Nat.beq v.flat.length n && v.flat.all qp) off v.flat l
 | none=>none
@[go_sem] theorem jg3 {v:AVal} {off n:Nat} {l:Option (List (Nat × List AVal))}:qx5 (some v) off n l=qsa (Nat.beq v.flat.length n && v.flat.all qp) off v.flat l:=rfl
@[go_sem] theorem jb1:kh e []=some []:=rfl
@[go_sem] theorem jbl {off n:Nat} {x:qu} {l:List (Nat × Nat × qu)}:kh e ((off,n,x)::l)=qx5 (ql e x) off n (kh e l):=by
 simp only [kh,qx5,qsa]
 cases ql e x with
 | none=>rfl
 | some v=>simp only []; cases (Nat.beq v.flat.length n && v.flat.all qp) <;> cases kh e l <;> rfl
def fillR (h:qk) (zero:List AVal) (ps:Option (List (Nat × List AVal))):Option ORes:=match ps with
 | some ps=>fillS h (qba zero ps)
 | none=>none
where fillS (h:qk) (r:Option (List AVal)):Option ORes:=match r with
 | some cs=>some ⟨.agg cs,false,none,h⟩
 | none=>none
@[go_sem] theorem jlr {zero:List AVal} {ps:List (Nat × List AVal)}:fillR h zero (some ps)=fillR.fillS h (qba zero ps):=rfl
@[go_sem] theorem jjf {cs:List AVal}:fillR.fillS h (some cs)=some ⟨.agg cs,false,none,h⟩:=rfl
@[go_sem] theorem jul {zero:List AVal} {ps:List (Nat × Nat × qu)}:qg p xc h0 al e h (.build zero ps)=fillR h zero (kh e ps):=by
 simp only [qg,qr,fillR,fillR.fillS]
 cases kh e ps with
 | none=>rfl
 | some ps=>simp only []; cases qba zero ps <;> rfl
@[go_sem] theorem jpn {cs:List AVal}:qba cs []=some cs:=rfl
def q1i (b:Bool) (cs:List AVal) (off:Nat) (vs:List AVal) (l:List (Nat × List AVal)):Option (List AVal):=match b with
 | true=>qba (cs.take off++vs++cs.drop (off + vs.length)) l
 | false=>none
@[go_sem] theorem jkp {cs:List AVal} {off:Nat} {vs:List AVal} {l:List (Nat × List AVal)}:q1i true cs off vs l=qba (cs.take off++vs++cs.drop (off + vs.length)) l:=rfl
@[go_sem] theorem jiz {cs:List AVal} {off:Nat} {vs:List AVal} {l:List (Nat × List AVal)}:qba cs ((off,vs)::l)=q1i (decide (off + vs.length≤cs.length)) cs off vs l:=by
 simp only [qba,q1i,qaw]
 cases decide (off + vs.length≤cs.length) <;> rfl
def elemsO (x:Option AVal) (i sz:Nat) (l:Option (List (Nat × AVal))):Option (List (Nat × AVal)):=match x with
 | some v=>elemsC (Nat.beq v.flat.length sz && v.flat.all qp) i v l
 | none=>none
where elemsC (b:Bool) (i:Nat) (v:AVal) (l:Option (List (Nat × AVal))):Option (List (Nat × AVal)):=match b,l with
 | true,some r=>some ((i,v)::r)
 | _,_=>none
@[go_sem] theorem jg1 {v:AVal} {i sz:Nat} {l:Option (List (Nat × AVal))}:elemsO (some v) i sz l=elemsO.elemsC (Nat.beq v.flat.length sz && v.flat.all qp) i v l:=rfl
@[go_sem] theorem jgf {v:AVal} {i:Nat} {r:List (Nat × AVal)}:elemsO.elemsC true i v (some r)=some ((i,v)::r):=rfl
@[go_sem] theorem jca {sz:Nat}:yt e sz []=some []:=rfl
@[go_sem] theorem jas {sz i:Nat} {x:qu} {l:List (Nat × qu)}:yt e sz ((i,x)::l)=elemsO (ql e x) i sz (yt e sz l):=by
 simp only [yt,elemsO,elemsO.elemsC]
 cases ql e x with
 | none=>rfl
 | some v=>simp only []; cases (Nat.beq v.flat.length sz && v.flat.all qp) <;> cases yt e sz l <;> rfl
@[go_sem] theorem jo7 {xs:List AVal}:qc2 xs []=some xs:=rfl
def qxd (b:Bool) (xs:List AVal) (i:Nat) (v:AVal) (l:List (Nat × AVal)):Option (List AVal):=match b with
 | true=>qc2 (xs.set i v) l
 | false=>none
@[go_sem] theorem jgd {xs:List AVal} {i:Nat} {v:AVal} {l:List (Nat × AVal)}:qxd true xs i v l=qc2 (xs.set i v) l:=rfl
@[go_sem] theorem jhp {xs:List AVal} {i:Nat} {v:AVal} {l:List (Nat × AVal)}:qc2 xs ((i,v)::l)=qxd (decide (i < xs.length)) xs i v l:=by
 simp only [qc2,qxd,qcx]
 cases decide (i < xs.length) <;> rfl
def sliceR (sz:Nat) (h:qk) (xs:List AVal) (ps:Option (List (Nat × AVal))):Option ORes:=match ps with
 | some ps=>sliceS sz h (qc2 xs ps)
 | none=>none
where sliceS (sz:Nat) (h:qk) (r:Option (List AVal)):Option ORes:=match r with
 | some xs=>some ⟨.list false sz xs,true,none,h⟩
 | none=>none
@[go_sem] theorem jg6 {sz:Nat} {xs:List AVal} {ps:List (Nat × AVal)}:sliceR sz h xs (some ps)=sliceR.sliceS sz h (qc2 xs ps):=rfl
@[go_sem] theorem jhb {sz:Nat} {xs:List AVal}:sliceR.sliceS sz h (some xs)=some ⟨.list false sz xs,true,none,h⟩:=rfl
@[go_sem] theorem jez {sz len:Nat} {zero:List AVal} {ps:List (Nat × qu)}:qg p xc h0 al e h (.buildSlice sz len zero ps)=sliceR sz h (List.replicate len (bif Nat.beq sz 1 then zero.headD .undef else .agg zero)) (yt e sz ps):=by
 simp only [qg,qr,sliceR,sliceR.sliceS]
 cases yt e sz ps with
 | none=>rfl
 | some ps=>simp only []; cases qc2 (List.replicate len (bif Nat.beq sz 1 then zero.headD .undef else .agg zero)) ps <;> rfl
def appR (sz bytes:Nat) (h:qk) (own:Option Nat) (x y:Option AVal):Option ORes:=match x,y with
 | some (.list n sz' xs),some vy=>ifR (n || own.isSome) (appS sz bytes h own n sz' xs (yy sz vy))
 | _,_=>none
where appS (sz bytes:Nat) (h:qk) (own:Option Nat) (n:Bool) (sz':Nat) (xs:List AVal) (ys:Option (List AVal)):Option ORes:=match ys with
 | some ys=>ifR ((Nat.beq sz sz' || (xs.isEmpty && n)) && Nat.ble (xs.length + ys.length) 1073741824 && Nat.ble bytes 4096 && Nat.blt 0 sz) (some ⟨qe1 n sz xs ys,true,own,h⟩)
 | none=>none
@[go_sem] theorem job {sz bytes:Nat} {own:Option Nat} {n:Bool} {sz':Nat} {xs:List AVal} {vy:AVal}:appR sz bytes h own (some (.list n sz' xs)) (some vy)=ifR (n || own.isSome) (appR.appS sz bytes h own n sz' xs (yy sz vy)):=rfl
@[go_sem] theorem jod {sz bytes:Nat} {own:Option Nat} {n:Bool} {sz':Nat} {xs ys:List AVal}:appR.appS sz bytes h own n sz' xs (some ys)=ifR ((Nat.beq sz sz' || (xs.isEmpty && n)) && Nat.ble (xs.length + ys.length) 1073741824 && Nat.ble bytes 4096 && Nat.blt 0 sz) (some ⟨qe1 n sz xs ys,true,own,h⟩):=rfl
@[go_sem] theorem jtg {sz bytes:Nat} {x y:qu}:qg p xc h0 al e h (.append none sz bytes x y)=appR sz bytes h (zh e x) (ql e x) (ql e y):=by
 simp only [qg,qr,appR,appR.appS]
 cases ql e x with
 | none=>rfl
 | some vx=>
  cases vx with
  | list n sz' xs=>
   cases ql e y with
   | none=>rfl
   | some vy=>
    simp only [ifR]
    cases (n || (zh e x).isSome) with
    | false=>rfl
    | true=>
     simp only [cond_true]
     cases yy sz vy with
     | none=>rfl
     | some ys=>simp only []; cases ((Nat.beq sz sz' || (xs.isEmpty && n)) && Nat.ble (xs.length + ys.length) 1073741824 && Nat.ble bytes 4096 && Nat.blt 0 sz) <;> rfl
  | _=>cases ql e y <;> rfl
@[go_sem] theorem jck {z:Nat} {f:α→AVal} {l:Option (List α)}:yy z (sl z f l)=some ((l.getD []).map f):=by
 cases l <;> simp [yy,sl]
@[go_sem] theorem jr9 {z:Nat} {b:Bool} {xs:List AVal}:yy z (.list b z xs)=some xs:=by simp [yy]
@[go_sem] theorem jt7 {z z':Nat} {b:Bool}:yy z (.list b z' [])=some []:=by simp [yy]
@[go_sem] theorem jgn {z:Nat} {xs ys:List AVal}:qe1 false z xs ys=.list false z (xs++ys):=rfl
@[go_sem] theorem jij {z:Nat} {b:Bool} {xs:List AVal} {y:AVal} {ys:List AVal}:qe1 b z xs (y::ys)=.list false z (xs++y::ys):=by cases b <;> rfl
attribute [go_sem] Option.isSome_some Option.isSome_none Bool.or_true Bool.true_or List.isEmpty_nil List.isEmpty_cons Bool.and_false Bool.false_and
def qqi (h:qk) (i:Nat) (x:Option AVal):Option ORes:=match x with
 | some (.tup vs)=>qav h vs[i]?
 | _=>none
@[go_sem] theorem jcp {i:Nat} {vs:List AVal}:qqi h i (some (.tup vs))=qav h vs[i]?:=rfl
@[go_sem] theorem jnp {i:Nat} {x:qu}:qg p xc h0 al e h (.extract x i)=qqi h i (ql e x):=by
 simp only [qg,qr,qqi]
 cases ql e x with
 | none=>rfl
 | some v=>cases v <;> rfl
def un1 (op:UnOp) (h:qk) (x:Option AVal):Option ORes:=match x with
 | some v=>qav h (qjg op v)
 | none=>none
@[go_sem] theorem jsc {op:UnOp} {v:AVal}:un1 op h (some v)=qav h (qjg op v):=rfl
@[go_sem] theorem jv1 {op:UnOp} {x:qu}:qg p xc h0 al e h (.un op x)=un1 op h (ql e x):=by
 simp only [qg,qr,un1]
 cases ql e x <;> rfl
@[go_sem] theorem juv {b:Bool}:qjg .not (.bool b)=some (.bool (!b)):=rfl
@[go_sem] theorem ju1 {k:IntKind} {n:Int}:qjg .neg (.int k n)=some (.int k (qf k (0 - n))):=rfl
def q7m (neq:Bool) (h:qk) (x y:Option AVal):Option ORes:=match x,y with
 | some (.bool a),some (.bool b)=>val h (.bool (bif neq then !(a == b) else a == b))
 | _,_=>none
@[go_sem] theorem jn2 {neq a b:Bool}:q7m neq h (some (.bool a)) (some (.bool b))=some ⟨.bool (bif neq then !(a == b) else a == b),false,none,h⟩:=rfl
@[go_sem] theorem jvr {neq:Bool} {x y:qu}:qg p xc h0 al e h (.beq neq x y)=q7m neq h (ql e x) (ql e y):=by
 simp only [qg,qr,q7m]
 cases ql e x with
 | none=>rfl
 | some v=>cases v <;> cases ql e y <;> rfl
def qsx (f:Fn) (h:qk) (a b:Option (List AVal)):Option ORes:=match a,b with
 | some a,some b=>val h (.fn f a b)
 | _,_=>none
@[go_sem] theorem je3 {f:Fn} {a b:List AVal}:qsx f h (some a) (some b)=some ⟨.fn f a b,false,none,h⟩:=rfl
@[go_sem] theorem jq1 {f:Fn} {a b:List qu}:qg p xc h0 al e h (.mkfunc f a b)=qsx f h (kr e a) (kr e b):=by
 simp only [qg,qr,qsx]
 cases kr e a <;> cases kr e b <;> rfl
def mxR (f:AVal→AVal→Option AVal) (h:qk) (l:Option (List AVal)):Option ORes:=match l with
 | some (v::vs)=>qav h (qc4 f v vs)
 | _=>none
@[go_sem] theorem jsx {f:AVal→AVal→Option AVal} {v:AVal} {vs:List AVal}:mxR f h (some (v::vs))=qav h (qc4 f v vs):=rfl
@[go_sem] theorem jv2 {l:List qu}:qg p xc h0 al e h (.mx l)=mxR max2 h (kr e l):=by
 simp only [qg,qr,mxR]
 cases kr e l with
 | none=>rfl
 | some vs=>cases vs <;> rfl
@[go_sem] theorem jv0 {l:List qu}:qg p xc h0 al e h (.mn l)=mxR min2 h (kr e l):=by
 simp only [qg,qr,mxR]
 cases kr e l with
 | none=>rfl
 | some vs=>cases vs <;> rfl
def q3d (f:AVal→AVal→Option AVal) (x:Option AVal) (l:List AVal):Option AVal:=match x with
 | some z=>qc4 f z l
 | none=>none
@[go_sem] theorem jm2 {f:AVal→AVal→Option AVal} {x:AVal} {l:List AVal}:q3d f (some x) l=qc4 f x l:=rfl
@[go_sem] theorem jo0 {f:AVal→AVal→Option AVal} {x:AVal}:qc4 f x []=some x:=rfl
@[go_sem] theorem jnh {f:AVal→AVal→Option AVal} {x y:AVal} {l:List AVal}:qc4 f x (y::l)=q3d f (f x y) l:=by
 simp only [qc4,q3d]; rfl
@[go_sem] theorem jp9 {k:IntKind} {x y:Int}:max2 (.int k x) (.int k y)=some (.int k (max x y)):=by
 simp only [max2,decide_true,cond_true]
 congr 2
 by_cases h:y > x
 ·rw [if_pos h]; omega
 ·rw [if_neg h]; omega
@[go_sem] theorem jtr {k:IntKind} {x y:Int}:min2 (.int k x) (.int k y)=some (.int k (min x y)):=by
 simp only [min2,decide_true,cond_true]
 congr 2
 by_cases h:y < x
 ·rw [if_pos h]; omega
 ·rw [if_neg h]; omega
def qx0 (k:Nat) (neq:Bool) (h:qk) (x:Option AVal):Option ORes:=match k,x with
  | 0,some (.list n _ _)=>val h (.bool (bif neq then !n else n))
  | 0,some (.ms ..)=>val h (.bool neq)
  | 1,some .nilptr=>val h (.bool (!neq))
  | 1,some (.ptr ..)=>val h (.bool neq)
  | 1,some (.vptr ..)=>val h (.bool neq)
  | 2,some .nilmap=>val h (.bool (!neq))
  | 2,some (.map ..)=>val h (.bool neq)
  | 3,some .nilfn=>val h (.bool (!neq))
  | 3,some (.fn ..)=>val h (.bool neq)
  | _,_=>none
@[go_sem] theorem jt4 {k:Nat} {neq:Bool} {x:qu}:qg p xc h0 al e h (.nilEq k neq x)=qx0 k neq h (ql e x):=rfl
@[go_sem] theorem ji0 {neq n:Bool} {z:Nat} {xs:List AVal}:qx0 0 neq h (some (.list n z xs))=some ⟨.bool (bif neq then !n else n),false,none,h⟩:=rfl
@[go_sem] theorem jn8 {n:Nat} {k:IntKind} {i:Int}:below n (.int k i)=true:=rfl
@[go_sem] theorem jnb {n:Nat} {b:Bool}:below n (.bool b)=true:=rfl
@[go_sem] theorem jo4 {n:Nat} {s:List UInt8}:below n (.str s)=true:=rfl
@[go_sem] theorem jiw {n:Nat} {b:Bool} {z:Nat} {xs:List AVal}:below n (.list b z xs)=jk n xs:=by simp only [below]
@[go_sem] theorem jn5 {n:Nat} {xs:List AVal}:below n (.agg xs)=jk n xs:=by simp only [below]
@[go_sem] theorem jo1 {n:Nat} {xs:List AVal}:below n (.tup xs)=jk n xs:=by simp only [below]
@[go_sem] theorem jnx {n b o:Nat}:below n (.ptr b o)=decide (b < n):=by simp only [below,qcx]
@[go_sem] theorem joj {n b:Nat}:below n (.map b)=decide (b < n):=by simp only [below,qcx]
@[go_sem] theorem jsj {n k:Nat} {a b:List AVal}:below n (.fn (.func k) a b)=(jk n a && jk n b):=by simp only [below]
@[go_sem] theorem jhq {n:Nat}:jk n []=true:=by simp only [jk]
@[go_sem] theorem qyy {n:Nat} {x:AVal} {xs:List AVal}:jk n (x::xs)=(below n x && jk n xs):=by simp only [jk]
@[go_sem] theorem jj8 {n:Nat} {i:Int}:below n (qo i)=true:=rfl
@[go_sem] theorem jhr {n z:Nat} {l:Option (List Int)}:below n (sl z qo l)=true:=qfn fun _=>rfl
theorem qsl {n:Nat} {f:α→AVal} (hf:∀ x,below n (f x)=true):∀ l:List α,jk n (l.map f)=true
 | []=>rfl
 | x::l=>by rw [List.map_cons,qyy,hf,qsl hf l]; rfl
@[go_sem] theorem jgk {n:Nat} {l:List Int}:jk n (l.map qo)=true:=qsl (fun _=>rfl) l
@[go_sem] theorem jua {k:IntKind} {i:Int}:qa0 h (.int k i)=some (.int k i):=rfl
@[go_sem] theorem jrn {b:Bool}:qa0 h (.bool b)=some (.bool b):=rfl
@[go_sem] theorem juh {s:List UInt8}:qa0 h (.str s)=some (.str s):=rfl
@[go_sem] theorem js0 {b:Bool} {z:Nat} {xs:List AVal}:qa0 h (.list b z xs)=some (.list b z xs):=rfl
@[go_sem] theorem jfd {z:Nat} {f:α→AVal} {l:Option (List α)}:qa0 h (sl z f l)=some (sl z f l):=by cases l <;> rfl
@[go_sem] theorem jty:qay h []=some []:=rfl
@[go_sem] theorem jok {v:AVal} {vs:List AVal}:qay h (v::vs)=qdy (qa0 h v) (qay h vs):=by
 simp only [qay,qdy]
 cases qa0 h v with
 | none=>rfl
 | some x=>cases qay h vs <;> rfl
def q3e (l:Option (List AVal)):Option AVal:=match l with
 | some xs=>some (.agg xs)
 | none=>none
@[go_sem] theorem jpc {xs:List AVal}:q3e (some xs)=some (.agg xs):=rfl
@[go_sem] theorem jri {cs:List AVal}:freezeR h (.agg cs)=q3e (qay h cs):=by
 simp only [freezeR,q3e]
 cases qay h cs <;> rfl
@[go_sem] theorem jrp {k:IntKind} {i:Int}:freezeR h (.int k i)=some (.int k i):=rfl
@[go_sem] theorem jnr {b:Bool}:freezeR h (.bool b)=some (.bool b):=rfl
@[go_sem] theorem jp1 {s:List UInt8}:freezeR h (.str s)=some (.str s):=rfl
@[go_sem] theorem joc {b:Bool} {z:Nat} {xs:List AVal}:freezeR h (.list b z xs)=some (.list b z xs):=rfl
@[go_sem] theorem jt6 {z:Nat} {f:α→AVal} {l:Option (List α)}:freezeR h (sl z f l)=some (sl z f l):=by cases l <;> rfl
def q7h (l:Option (List AVal)):Option AVal:=match l with
 | some xs=>some (.tup xs)
 | none=>none
@[go_sem] theorem jot {xs:List AVal}:q7h (some xs)=some (.tup xs):=rfl
@[go_sem] theorem jqy {cs:List AVal}:freezeR h (.tup cs)=q7h (freezeR.freezeT h cs):=by
 simp only [freezeR,q7h]
 cases freezeR.freezeT h cs <;> rfl
@[go_sem] theorem jpz:freezeR.freezeT h []=some []:=rfl
@[go_sem] theorem jr3 {cs vs:List AVal}:freezeR.freezeT h (.agg cs::vs)=qdy (q3e (qay h cs)) (freezeR.freezeT h vs):=by
 rw [freezeR.freezeT]
 cases qay h cs with
 | none=>rfl
 | some x=>cases freezeR.freezeT h vs <;> rfl
theorem qhy {v:AVal} {vs:List AVal} (hv:v.isAgg=false):freezeR.freezeT h (v::vs)=qdy (qa0 h v) (freezeR.freezeT h vs):=by
 have:∀ cs,v ≠ .agg cs:=fun cs hc=>by rw [hc] at hv; cases hv
 rw [freezeR.freezeT]
 ·cases qa0 h v with
  | none=>rfl
  | some x=>cases freezeR.freezeT h vs <;> rfl
 ·exact this
@[go_sem] theorem jsd {k:IntKind} {i:Int} {vs:List AVal}:freezeR.freezeT h (.int k i::vs)=qdy (some (.int k i)) (freezeR.freezeT h vs):=qhy rfl
@[go_sem] theorem jnw {b:Bool} {vs:List AVal}:freezeR.freezeT h (.bool b::vs)=qdy (some (.bool b)) (freezeR.freezeT h vs):=qhy rfl
@[go_sem] theorem jq4 {s:List UInt8} {vs:List AVal}:freezeR.freezeT h (.str s::vs)=qdy (some (.str s)) (freezeR.freezeT h vs):=qhy rfl
@[go_sem] theorem jph {b:Bool} {z:Nat} {xs vs:List AVal}:freezeR.freezeT h (.list b z xs::vs)=qdy (some (.list b z xs)) (freezeR.freezeT h vs):=qhy rfl
@[go_sem] theorem jub {z:Nat} {f:α→AVal} {l:Option (List α)} {vs:List AVal}:freezeR.freezeT h (sl z f l::vs)=qdy (some (sl z f l)) (freezeR.freezeT h vs):=by
 rw [qhy (by cases l <;> rfl),jfd]
attribute [go_sem] List.contains_cons List.contains_nil
@[go_sem] theorem juc {a b:Nat}:(a == b)=decide (a=b):=by
 by_cases hab:a=b <;> simp [hab]
def qre (agg:Bool) (c:Option (AVal × Bool)) (vs:Option (List AVal)):Option (AVal × Bool):=match vs,agg with
 | some vs,true=>some (.agg vs,false)
 | some _,false=>c
 | none,_=>none
@[go_sem] theorem jol {c:Option (AVal × Bool)} {vs:List AVal}:qre true c (some vs)=some (.agg vs,false):=rfl
@[go_sem] theorem jn3 {c:Option (AVal × Bool)} {vs:List AVal}:qre false c (some vs)=c:=rfl
def qvp (agg:Bool) (o n:Nat) (cs:Option (List (AVal × Bool))):Option (AVal × Bool):=match cs with
 | some cs=>qre agg cs[o]? (kj cs o n)
 | none=>none
@[go_sem] theorem jml {agg:Bool} {o n:Nat} {cs:List (AVal × Bool)}:qvp agg o n (some cs)=qre agg cs[o]? (kj cs o n):=rfl
def q1m (agg:Bool) (n:Nat) (h:qk) (x:Option (AVal × Bool)):Option (AVal × Bool):=match x with
 | some (.ptr b o,_)=>qvp agg o n (jq h b)
 | _=>none
@[go_sem] theorem jpk {agg:Bool} {n b o:Nat} {w:Bool}:q1m agg n h (some (.ptr b o,w))=qvp agg o n (jq h b):=rfl
@[go_sem] theorem jcc {t n:Nat} {agg:Bool}:qbv ⟨e,h⟩ (.cell t agg n)=q1m agg n h (jp t e):=by
 simp only [qbv,q1m]
 cases jp t e with
 | none=>rfl
 | some x=>
  obtain ⟨v,w⟩:=x
  cases v with
  | ptr b o=>
   simp only [qvp]
   cases jq h b with
   | none=>rfl
   | some cs=>
    simp only [qre]
    cases kj cs o n with
    | none=>rfl
    | some vs=>cases agg with
     | true=>rfl
     | false=>simp only [cond_false]; cases cs[o]? <;> rfl
  | _=>rfl
theorem ym {k:Nat} {args:List AVal} {v v':AVal} {o:Bool} (hp:p.prims k=none) (hc:jl p xc k args []=some (v,o,h)) (hz:freezeR h v=some v') (hv:below 0 v'=true):qc p xc k args=some (v',o && v.isList):=by
 unfold qc
 rw [hp]
 simp only [hc,hz,qb1,hv,cond_true]
end
end Go.Abs
