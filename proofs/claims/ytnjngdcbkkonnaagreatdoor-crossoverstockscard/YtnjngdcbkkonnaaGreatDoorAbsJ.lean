/-
  Equations of the executor, second part: boxes, structs, further operations; calls as equations.
-/
import Derived.Test.YtnjngdcbkkonnaaGreatDoorAbsI
set_option linter.unusedVariables false
set_option linter.unusedSimpArgs false
namespace Go.Abs
section
variable {p:jj} {xc:XC} {h0:Nat} {al:Option (List Nat)} {e:Env} {h:qn} {α:Type}
attribute [go_sem] List.getElem?_cons_zero List.getElem?_cons_succ List.getElem?_nil List.set_cons_zero List.set_cons_succ List.set_nil List.cons_append List.replicate_zero List.replicate_succ List.map_cons List.map_nil List.all_cons List.all_nil List.drop_zero List.drop_succ_cons List.take_zero List.take_succ_cons List.drop_nil List.take_nil Bool.and_true Bool.true_and Bool.or_false Bool.false_or Bool.and_self List.headD_cons List.foldl_cons List.foldl_nil List.flatMap_cons List.flatMap_nil
@[go_sem] theorem jm1 {k:IntKind} {n:Int}:qo (.int k n)=true:=rfl
@[go_sem] theorem jmj {b:Bool}:qo (.bool b)=true:=rfl
@[go_sem] theorem jnd {s:List UInt8}:qo (.str s)=true:=rfl
@[go_sem] theorem jmd {b:Bool} {z:Nat} {xs:List AVal}:qo (.list b z xs)=true:=rfl
@[go_sem] theorem jnn {b o n:Nat}:qo (.ms b o n)=true:=rfl
@[go_sem] theorem jm4 {b o:Nat}:qo (.ptr b o)=true:=rfl
@[go_sem] theorem jm3 {b:Nat}:qo (.map b)=true:=rfl
@[go_sem] theorem jhw:qo .nilptr=true:=rfl
@[go_sem] theorem jid:qo .nilmap=true:=rfl
@[go_sem] theorem jj8:qo .nilfn=true:=rfl
@[go_sem] theorem jnr {f:Fn} {a b:List AVal}:qo (.fn f a b)=true:=rfl
@[go_sem] theorem jnw {z:Nat} {f:α→AVal} {l:Option (List α)}:qo (sl z f l)=true:=by cases l <;> rfl
@[go_sem] theorem jks {cs:List AVal}:AVal.flat (.agg cs)=cs:=rfl
@[go_sem] theorem ji6 {k:IntKind} {n:Int}:AVal.flat (.int k n)=[.int k n]:=rfl
@[go_sem] theorem jgr {b:Bool}:AVal.flat (.bool b)=[.bool b]:=rfl
@[go_sem] theorem jit {s:List UInt8}:AVal.flat (.str s)=[.str s]:=rfl
@[go_sem] theorem jgp {b:Bool} {z:Nat} {xs:List AVal}:AVal.flat (.list b z xs)=[.list b z xs]:=rfl
@[go_sem] theorem jmu {z:Nat} {f:α→AVal} {l:Option (List α)}:AVal.flat (sl z f l)=[sl z f l]:=by cases l <;> rfl
@[go_sem] theorem jk8 {b o:Nat}:AVal.flat (.ptr b o)=[.ptr b o]:=rfl
@[go_sem] theorem jkp {b:Nat}:AVal.flat (.map b)=[.map b]:=rfl
@[go_sem] theorem jmw {f:Fn} {a b:List AVal}:AVal.flat (.fn f a b)=[.fn f a b]:=rfl
@[go_sem] theorem jmh {b o n:Nat}:AVal.flat (.ms b o n)=[.ms b o n]:=rfl
@[go_sem] theorem qfv {a b:Nat}:Nat.beq a b=decide (a=b):=by
 cases h:Nat.beq a b with
 | true=>have:=Nat.eq_of_beq_eq_true h; simp [this]
 | false=>
  have:a ≠ b:=fun hh=>by subst hh; simp at h
  simp [this]
@[go_sem] theorem ke {a b:Nat}:Nat.ble a b=decide (a≤b):=by
 cases h:Nat.ble a b with
 | true=>have:=Nat.le_of_ble_eq_true h; simp [this]
 | false=>
  have:¬ a≤b:=fun hh=>by rw [Nat.ble_eq_true_of_le hh] at h; cases h
  simp [this]
@[go_sem] theorem qav {a b:Nat}:Nat.blt a b=decide (a < b):=by
 show Nat.ble (a + 1) b=_
 rw [ke]; rfl
@[go_sem] theorem jie {b:Nat}:ju h0 none b=true:=rfl
@[go_sem] theorem jl9:exl []=false:=rfl
@[go_sem] theorem ji9 {k:Nat} {l:List Nat}:exl (k::l)=decide (1000≤k):=by simp only [exl,ke]
@[go_sem] theorem jk7 {k b:Nat} {l:List Nat}:exq h0 (k::l) b=cond (decide (k < 2000)) (decide (b=k - 1000) && decide (b < h0)) (decide (b=h0 + (k - 2000))):=by
 have e:∀ x y:Nat,Nat.beq x y=decide (x=y):=fun x y=>by
  cases h:Nat.beq x y with
  | true=>rw [Nat.eq_of_beq_eq_true h]; simp
  | false=>
   have:x ≠ y:=fun e=>by rw [e,Nat.beq_refl] at h; cases h
   simp [this]
 simp only [exq,qav,e]
@[go_sem] theorem je1 {b:Nat} {l:List Nat}:ju h0 (some l) b=cond (exl l) (exq h0 l b) (decide (b < h0) || l.contains (b - h0)):=by simp only [ju,qav]
def kc (r:Option qn) (v:AVal):Option ORes:=match r with
 | some h'=>some ⟨v,false,none,h'⟩
 | none=>none
@[go_sem] theorem jgs {v:AVal}:kc (some h) v=some ⟨v,false,none,h⟩:=rfl
@[go_sem] theorem jhm {h0 r:Nat} {es:List (AVal × AVal)}:qxd h0 r h true (some es)=kc (newBox h0 h r (.map es)) (.map (h0 + r)):=rfl
def q2q (n:Nat) (h:qn) (b:Option ABox) (x:ABox):Option qn:=match b with
 | some .hole=>some (h.set n x)
 | _=>none
@[go_sem] theorem jic {n:Nat} {x:ABox}:q2q n h (some .hole) x=some (h.set n x):=rfl
@[go_sem] theorem jh3 {r:Nat} {x:ABox}:newBox h0 h r x=q2q (h0 + r) h h[h0 + r]? x:=by
 unfold newBox q2q; rfl
def ifR (b:Bool) (r:Option ORes):Option ORes:=match b with
 | true=>r
 | false=>none
@[go_sem] theorem jkk {r:Option ORes}:ifR true r=r:=rfl
@[go_sem] theorem jmr {r:Nat} {z:List AVal}:qe p xc h0 al e h (.alloc r z)=ifR (z.all qo) (kc (newBox h0 h r (.cells (cellsOf z))) (.ptr (h0 + r) 0)):=by
 simp only [qe,qw,ifR]
 cases z.all qo with
 | false=>rfl
 | true=>simp only [cond_true,kc]; cases newBox h0 h r (.cells (cellsOf z)) <;> rfl
def qw7 (n:Nat) (h:qn) (x:Option AVal):Option ORes:=match x with
 | some v=>ifR (Nat.beq v.flat.length n && v.flat.all qo) (some ⟨.vptr v,false,none,h⟩)
 | none=>none
@[go_sem] theorem jdz {n:Nat} {v:AVal}:qw7 n h (some v)=ifR (Nat.beq v.flat.length n && v.flat.all qo) (some ⟨.vptr v,false,none,h⟩):=rfl
@[go_sem] theorem jnh {n:Nat} {x:qt}:qe p xc h0 al e h (.vbox n x)=qw7 n h (qi e x):=by
 simp only [qe,qr,qw7]
 cases qi e x with
 | none=>rfl
 | some v=>
  simp only [ifR]
  cases (Nat.beq v.flat.length n && v.flat.all qo) <;> rfl
def q1z (h0 r n:Nat) (h:qn) (x:Option AVal):Option ORes:=match x with
 | some v=>ifR (Nat.beq v.flat.length n && v.flat.all qo) (kc (newBox h0 h r (.cells (cellsOf v.flat))) (.ptr (h0 + r) 0))
 | none=>none
@[go_sem] theorem jgw {r n:Nat} {v:AVal}:q1z h0 r n h (some v)=ifR (Nat.beq v.flat.length n && v.flat.all qo) (kc (newBox h0 h r (.cells (cellsOf v.flat))) (.ptr (h0 + r) 0)):=rfl
@[go_sem] theorem jnm {r n:Nat} {x:qt}:qe p xc h0 al e h (.box r n x)=q1z h0 r n h (qi e x):=by
 simp only [qe,qw,q1z]
 cases qi e x with
 | none=>rfl
 | some v=>
  simp only [ifR,kc]
  cases (Nat.beq v.flat.length n && v.flat.all qo) with
  | false=>rfl
  | true=>simp only [cond_true]; cases newBox h0 h r (.cells (cellsOf v.flat)) <;> rfl
@[go_sem] theorem q5d {r:Nat}:qe p xc h0 al e h (.mkmap r)=kc (newBox h0 h r (.map [])) (.map (h0 + r)):=by
 simp only [qe,qw,kc]
 cases newBox h0 h r (.map []) <;> rfl
@[go_sem] theorem q98:cellsOf []=[]:=rfl
@[go_sem] theorem q68 {v:AVal} {vs:List AVal}:cellsOf (v::vs)=(v,false)::cellsOf vs:=rfl
def qc5 (agg:Bool) (h:qn) (r:Option AVal):Option ORes:=match r with
 | some v=>bif Bool.xor agg v.isAgg then none else val h (.vptr v)
 | none=>none
def qc4 (agg:Bool) (off n:Nat) (h:qn) (x:Option AVal):Option ORes:=match x with
 | some (.ptr b o)=>val h (.ptr b (o + off))
 | some (.vptr (.agg cs))=>qc5 agg h (part agg cs off n)
 | _=>none
@[go_sem] theorem q5o {agg:Bool} {off n b o:Nat}:qc4 agg off n h (some (.ptr b o))=some ⟨.ptr b (o + off),false,none,h⟩:=rfl
@[go_sem] theorem q5h {agg:Bool} {off n:Nat} {cs:List AVal}:qc4 agg off n h (some (.vptr (.agg cs)))=qc5 agg h (part agg cs off n):=rfl
@[go_sem] theorem q9f {agg:Bool} {off n:Nat} {x:qt}:qe p xc h0 al e h (.fieldAddr agg off n x)=qc4 agg off n h (qi e x):=by
 simp only [qe,qr,qc4]
 cases qi e x with
 | none=>rfl
 | some v=>cases v with
  | vptr v=>cases v <;> rfl
  | _=>rfl
def jm2 (v:AVal):Prop:=v.isAgg=false
theorem jgz {v:AVal} (hv:v.isAgg=false):qc5 false h (some v)=some ⟨.vptr v,false,none,h⟩:=by simp [qc5,hv,val]
@[go_sem] theorem jhi {k:IntKind} {n:Int}:qc5 false h (some (.int k n))=some ⟨.vptr (.int k n),false,none,h⟩:=rfl
@[go_sem] theorem jhh {s:List UInt8}:qc5 false h (some (.str s))=some ⟨.vptr (.str s),false,none,h⟩:=rfl
@[go_sem] theorem je6 {b:Bool}:qc5 false h (some (.bool b))=some ⟨.vptr (.bool b),false,none,h⟩:=rfl
@[go_sem] theorem jiz {z:Nat} {f:α→AVal} {l:Option (List α)}:qc5 false h (some (sl z f l))=some ⟨.vptr (sl z f l),false,none,h⟩:=by cases l <;> rfl
@[go_sem] theorem jho {cs:List AVal}:qc5 true h (some (.agg cs))=some ⟨.vptr (.agg cs),false,none,h⟩:=rfl
@[go_sem] theorem jjo {cs:List AVal} {off n:Nat}:part false cs off n=cs[off]?:=rfl
def qxa (b:Bool) (cs:List AVal) (off n:Nat):Option AVal:=match b with
 | true=>some (.agg ((cs.drop off).take n))
 | false=>none
@[go_sem] theorem jaz {cs:List AVal} {off n:Nat}:qxa true cs off n=some (.agg ((cs.drop off).take n)):=rfl
@[go_sem] theorem jl1 {cs:List AVal} {off n:Nat}:part true cs off n=qxa (decide (off + n≤cs.length)) cs off n:=by
 simp only [part,qxa,cond_true,ke]
 cases decide (off + n≤cs.length) <;> rfl
@[go_sem] theorem jl3 {z:Nat} {f:α→AVal} {l:Option (List α)}:qan h0 al false 1 h (some (.vptr (sl z f l)))=some ⟨sl z f l,false,none,h⟩:=by cases l <;> rfl
def q2n (h:qn) (cs:List AVal) (b:Bool):Option ORes:=match b with
 | true=>some ⟨.agg cs,false,none,h⟩
 | false=>none
@[go_sem] theorem jh9 {cs:List AVal}:q2n h cs true=some ⟨.agg cs,false,none,h⟩:=rfl
@[go_sem] theorem je8 {n:Nat} {cs:List AVal}:qan h0 al true n h (some (.vptr (.agg cs)))=q2n h cs (decide (cs.length=n)):=by
 unfold q2n
 by_cases hn:cs.length=n
 ·rw [q0y hn]; simp [hn]
 ·simp [qan,AVal.isAgg,AVal.flat,hn,qfv]
def qse (agg:Bool) (h:qn) (vs:Option (List AVal)):Option ORes:=match vs with
 | some vs=>bif agg then val h (.agg vs) else (match vs with
  | [v]=>val h v
  | _=>none)
 | none=>none
@[go_sem] theorem jk6 {vs:List AVal}:qse true h (some vs)=some ⟨.agg vs,false,none,h⟩:=rfl
@[go_sem] theorem jiu {v:AVal}:qse false h (some [v])=some ⟨v,false,none,h⟩:=rfl
def qtg (b:Option ABox):Option (List (AVal × Bool)):=match b with
 | some (.cells cs)=>some cs
 | _=>none
@[go_sem] theorem q9g {cs:List (AVal × Bool)}:qtg (some (.cells cs))=some cs:=rfl
@[go_sem] theorem q9v {b:Nat}:jq h b=qtg h[b]?:=by unfold jq qtg; rfl
def ldC (b:Bool) (cs:List (AVal × Bool)) (off n:Nat):Option (List AVal):=match b with
 | true=>some (((cs.drop off).take n).map (·.1))
 | false=>none
@[go_sem] theorem q11 {cs:List (AVal × Bool)} {off n:Nat}:ldC true cs off n=some (((cs.drop off).take n).map (·.1)):=rfl
@[go_sem] theorem qtu {cs:List (AVal × Bool)} {off n:Nat}:zq cs off n=ldC (decide (off + n≤cs.length)) cs off n:=by
 simp only [zq,ldC,ke]
 cases decide (off + n≤cs.length) <;> rfl
def q2u (agg:Bool) (o n:Nat) (h:qn) (cs:Option (List (AVal × Bool))):Option ORes:=match cs with
 | some cs=>qse agg h (zq cs o n)
 | none=>none
@[go_sem] theorem jhq {agg:Bool} {o n:Nat} {cs:List (AVal × Bool)}:q2u agg o n h (some cs)=qse agg h (zq cs o n):=rfl
@[go_sem] theorem jhn {agg:Bool} {n b o:Nat}:qan h0 al agg n h (some (.ptr b o))=ifR (ju h0 al b) (q2u agg o n h (jq h b)):=by
 simp only [qan,ifR,q2u,qse]
 cases ju h0 al b with
 | false=>rfl
 | true=>
  simp only [cond_true]
  cases jq h b with
  | none=>rfl
  | some cs=>simp only []; cases zq cs o n <;> rfl
def qr7 (r:Option qn) (v:AVal) (w:Bool):Option ORes:=match r with
 | some h'=>some ⟨v,w,none,h'⟩
 | none=>none
@[go_sem] theorem jd4 {v:AVal} {w:Bool}:qr7 (some h) v w=some ⟨v,w,none,h⟩:=rfl
def qr5 (h:qn) (b o:Nat) (cs:List (AVal × Bool)) (x:Option (AVal × Bool)):Option ORes:=match x with
 | some (v,w)=>qr7 (jn h b (.cells (cs.set o (v,false)))) v w
 | none=>none
@[go_sem] theorem jeu {b o:Nat} {cs:List (AVal × Bool)} {v:AVal} {w:Bool}:qr5 h b o cs (some (v,w))=qr7 (jn h b (.cells (cs.set o (v,false)))) v w:=rfl
def qrt (h:qn) (b o:Nat) (cs:Option (List (AVal × Bool))):Option ORes:=match cs with
 | some cs=>qr5 h b o cs cs[o]?
 | none=>none
@[go_sem] theorem jec {b o:Nat} {cs:List (AVal × Bool)}:qrt h b o (some cs)=qr5 h b o cs cs[o]?:=rfl
def qlj (h0:Nat) (al:Option (List Nat)) (off:Option Nat) (h:qn) (x:Option AVal):Option ORes:=match x with
 | some (.ptr b o)=>ifR (ju h0 al b && qd5 off o) (qrt h b o (jq h b))
 | _=>none
@[go_sem] theorem q5r {off:Option Nat} {b o:Nat}:qlj h0 al off h (some (.ptr b o))=ifR (ju h0 al b && qd5 off o) (qrt h b o (jq h b)):=rfl
@[go_sem] theorem jdn {o:Nat}:qd5 none o=true:=rfl
@[go_sem] theorem jfc {a o:Nat}:qd5 (some a) o=decide (a=o):=by simp only [qd5,qfv]
@[go_sem] theorem jde {off:Option Nat} {x:qt}:qe p xc h0 al e h (.loadTake off x)=qlj h0 al off h (qi e x):=by
 simp only [qe,qw,qlj]
 cases qi e x with
 | none=>rfl
 | some v=>cases v with
  | ptr b o=>
   simp only [ifR,qrt,qr5,qr7]
   cases (ju h0 al b && qd5 off o) with
   | false=>rfl
   | true=>
    simp only [cond_true]
    cases jq h b with
    | none=>rfl
    | some cs=>
     simp only []
     cases cs[o]? with
     | none=>rfl
     | some c=>
      obtain ⟨v,w⟩:=c
      simp only []
      cases jn h b (.cells (cs.set o (v,false))) <;> rfl
  | _=>rfl
def q1r (b:Bool) (n:Nat) (x:ABox) (h:qn):Option qn:=match b with
 | true=>some (h.set n x)
 | false=>none
@[go_sem] theorem jhj {n:Nat} {x:ABox}:q1r true n x h=some (h.set n x):=rfl
@[go_sem] theorem jhz {b:Nat} {x:ABox}:jn h b x=q1r (decide (b < h.length)) b x h:=by
 simp only [jn,q1r,qav]
 cases decide (b < h.length) <;> rfl
def stC (b:Bool) (cs:List (AVal × Bool)) (off:Nat) (vs:List AVal):Option (List (AVal × Bool)):=match b with
 | true=>some (cs.take off++vs.map (·,false)++cs.drop (off + vs.length))
 | false=>none
@[go_sem] theorem qur {cs:List (AVal × Bool)} {off:Nat} {vs:List AVal}:stC true cs off vs=some (cs.take off++vs.map (·,false)++cs.drop (off + vs.length)):=rfl
@[go_sem] theorem qkq {cs:List (AVal × Bool)} {off:Nat} {vs:List AVal}:zj cs off vs=stC (decide (off + vs.length≤cs.length) && vs.all qo) cs off vs:=by
 simp only [zj,stC,ke]
 cases (decide (off + vs.length≤cs.length) && vs.all qo) <;> rfl
def job (e:Env) (x:qt):Option Nat:=j6 e x
def qxx (t:Nat) (x:Option (AVal × Bool)):Option Nat:=match x with
 | some (_,true)=>some t
 | _=>none
@[go_sem] theorem jh7 {t:Nat} {v:AVal}:qxx t (some (v,true))=some t:=rfl
@[go_sem] theorem jfi {t:Nat} {v:AVal}:qxx t (some (v,false))=none:=rfl
@[go_sem] theorem jhd {t:Nat}:j6 e (.tmp t)=qxx t (look t e):=by
 simp only [j6,qxx]; rfl
@[go_sem] theorem q9j {v:AVal}:j6 e (.const v)=none:=rfl
def qmi (h:qn) (b:Nat) (cs:Option (List (AVal × Bool))):Option ORes:=match cs with
 | some cs'=>kc (jn h b (.cells cs')) .undef
 | none=>none
@[go_sem] theorem q58 {b:Nat} {cs:List (AVal × Bool)}:qmi h b (some cs)=kc (jn h b (.cells cs)) .undef:=rfl
def qr6 (t:Nat) (r:Option qn):Option ORes:=match r with
 | some h'=>some ⟨.undef,false,some t,h'⟩
 | none=>none
@[go_sem] theorem jft {t:Nat}:qr6 t (some h)=some ⟨.undef,false,some t,h⟩:=rfl
def qls (n:Nat) (h:qn) (b o:Nat) (v:AVal) (own:Option Nat) (cs:Option (List (AVal × Bool))):Option ORes:=match cs,own with
 | some cs,some t=>ifR (Nat.beq n 1 && v.isList && Nat.blt o cs.length) (qr6 t (jn h b (.cells (cs.set o (v,true)))))
 | some cs,none=>ifR (Nat.beq v.flat.length n) (qmi h b (zj cs o v.flat))
 | none,_=>none
@[go_sem] theorem jay {n b o t:Nat} {v:AVal} {cs:List (AVal × Bool)}:qls n h b o v (some t) (some cs)=ifR (Nat.beq n 1 && v.isList && Nat.blt o cs.length) (qr6 t (jn h b (.cells (cs.set o (v,true))))):=rfl
@[go_sem] theorem q6a {n b o:Nat} {v:AVal} {cs:List (AVal × Bool)}:qls n h b o v none (some cs)=ifR (Nat.beq v.flat.length n) (qmi h b (zj cs o v.flat)):=rfl
def qt1 (h0:Nat) (al:Option (List Nat)) (n:Nat) (h:qn) (own:Option Nat) (a x:Option AVal):Option ORes:=match a,x with
 | some (.ptr b o),some v=>ifR (ju h0 al b) (qls n h b o v own (jq h b))
 | _,_=>none
@[go_sem] theorem jd7 {n b o:Nat} {own:Option Nat} {v:AVal}:qt1 h0 al n h own (some (.ptr b o)) (some v)=ifR (ju h0 al b) (qls n h b o v own (jq h b)):=rfl
@[go_sem] theorem jmv {n:Nat} {a x:qt}:qe p xc h0 al e h (.store n a x)=qt1 h0 al n h (j6 e x) (qi e a) (qi e x):=by
 simp only [qe,qw,qt1]
 cases qi e a with
 | none=>rfl
 | some va=>
  cases va with
  | ptr b o=>
   cases qi e x with
   | none=>rfl
   | some v=>
    simp only [ifR]
    cases ju h0 al b with
    | false=>rfl
    | true=>
     simp only [cond_true]
     cases jq h b with
     | none=>rfl
     | some cs=>
      simp only [qls]
      cases j6 e x with
      | none=>
       simp only [ifR,qmi,kc]
       cases Nat.beq v.flat.length n with
       | false=>rfl
       | true=>
        simp only [cond_true]
        cases zj cs o v.flat with
        | none=>rfl
        | some cs'=>simp only []; cases jn h b (.cells cs') <;> rfl
      | some t=>
       simp only [ifR,qr6]
       cases (Nat.beq n 1 && v.isList && Nat.blt o cs.length) with
       | false=>rfl
       | true=>simp only [cond_true]; cases jn h b (.cells (cs.set o (v,true))) <;> rfl
  | _=>rfl
@[go_sem] theorem q9z {b:Bool} {z:Nat} {xs:List AVal}:AVal.isList (.list b z xs)=true:=rfl
@[go_sem] theorem jg9 {z:Nat} {f:α→AVal} {l:Option (List α)}:AVal.isList (sl z f l)=true:=by cases l <;> rfl
def qoq (b:Bool) (off:Nat) (vs:List AVal) (l:Option (List (Nat × List AVal))):Option (List (Nat × List AVal)):=match b,l with
 | true,some r=>some ((off,vs)::r)
 | _,_=>none
@[go_sem] theorem q9k {off:Nat} {vs:List AVal} {r:List (Nat × List AVal)}:qoq true off vs (some r)=some ((off,vs)::r):=rfl
def qt2 (x:Option AVal) (off n:Nat) (l:Option (List (Nat × List AVal))):Option (List (Nat × List AVal)):=match x with
 | some v=>qoq (Nat.beq v.flat.length n && v.flat.all qo) off v.flat l
 | none=>none
@[go_sem] theorem q9s {v:AVal} {off n:Nat} {l:Option (List (Nat × List AVal))}:qt2 (some v) off n l=qoq (Nat.beq v.flat.length n && v.flat.all qo) off v.flat l:=rfl
@[go_sem] theorem q5q:yf e []=some []:=rfl
@[go_sem] theorem q42 {off n:Nat} {x:qt} {l:List (Nat × Nat × qt)}:yf e ((off,n,x)::l)=qt2 (qi e x) off n (yf e l):=by
 simp only [yf,qt2,qoq]
 cases qi e x with
 | none=>rfl
 | some v=>simp only []; cases (Nat.beq v.flat.length n && v.flat.all qo) <;> cases yf e l <;> rfl
def fillR (h:qn) (zero:List AVal) (ps:Option (List (Nat × List AVal))):Option ORes:=match ps with
 | some ps=>fillS h (qai zero ps)
 | none=>none
where fillS (h:qn) (r:Option (List AVal)):Option ORes:=match r with
 | some cs=>some ⟨.agg cs,false,none,h⟩
 | none=>none
@[go_sem] theorem jeh {zero:List AVal} {ps:List (Nat × List AVal)}:fillR h zero (some ps)=fillR.fillS h (qai zero ps):=rfl
@[go_sem] theorem jfp {cs:List AVal}:fillR.fillS h (some cs)=some ⟨.agg cs,false,none,h⟩:=rfl
@[go_sem] theorem jms {zero:List AVal} {ps:List (Nat × Nat × qt)}:qe p xc h0 al e h (.build zero ps)=fillR h zero (yf e ps):=by
 simp only [qe,qr,fillR,fillR.fillS]
 cases yf e ps with
 | none=>rfl
 | some ps=>simp only []; cases qai zero ps <;> rfl
@[go_sem] theorem jib {cs:List AVal}:qai cs []=some cs:=rfl
def qyh (b:Bool) (cs:List AVal) (off:Nat) (vs:List AVal) (l:List (Nat × List AVal)):Option (List AVal):=match b with
 | true=>qai (cs.take off++vs++cs.drop (off + vs.length)) l
 | false=>none
@[go_sem] theorem jdj {cs:List AVal} {off:Nat} {vs:List AVal} {l:List (Nat × List AVal)}:qyh true cs off vs l=qai (cs.take off++vs++cs.drop (off + vs.length)) l:=rfl
@[go_sem] theorem jb8 {cs:List AVal} {off:Nat} {vs:List AVal} {l:List (Nat × List AVal)}:qai cs ((off,vs)::l)=qyh (decide (off + vs.length≤cs.length)) cs off vs l:=by
 simp only [qai,qyh,ke]
 cases decide (off + vs.length≤cs.length) <;> rfl
def elemsO (x:Option AVal) (i sz:Nat) (l:Option (List (Nat × AVal))):Option (List (Nat × AVal)):=match x with
 | some v=>elemsC (Nat.beq v.flat.length sz && v.flat.all qo) i v l
 | none=>none
where elemsC (b:Bool) (i:Nat) (v:AVal) (l:Option (List (Nat × AVal))):Option (List (Nat × AVal)):=match b,l with
 | true,some r=>some ((i,v)::r)
 | _,_=>none
@[go_sem] theorem q9d {v:AVal} {i sz:Nat} {l:Option (List (Nat × AVal))}:elemsO (some v) i sz l=elemsO.elemsC (Nat.beq v.flat.length sz && v.flat.all qo) i v l:=rfl
@[go_sem] theorem q92 {v:AVal} {i:Nat} {r:List (Nat × AVal)}:elemsO.elemsC true i v (some r)=some ((i,v)::r):=rfl
@[go_sem] theorem q5z {sz:Nat}:z6 e sz []=some []:=rfl
@[go_sem] theorem q5m {sz i:Nat} {x:qt} {l:List (Nat × qt)}:z6 e sz ((i,x)::l)=elemsO (qi e x) i sz (z6 e sz l):=by
 simp only [z6,elemsO,elemsO.elemsC]
 cases qi e x with
 | none=>rfl
 | some v=>simp only []; cases (Nat.beq v.flat.length sz && v.flat.all qo) <;> cases z6 e sz l <;> rfl
@[go_sem] theorem jhg {xs:List AVal}:qby xs []=some xs:=rfl
def qt3 (b:Bool) (xs:List AVal) (i:Nat) (v:AVal) (l:List (Nat × AVal)):Option (List AVal):=match b with
 | true=>qby (xs.set i v) l
 | false=>none
@[go_sem] theorem q9q {xs:List AVal} {i:Nat} {v:AVal} {l:List (Nat × AVal)}:qt3 true xs i v l=qby (xs.set i v) l:=rfl
@[go_sem] theorem jee {xs:List AVal} {i:Nat} {v:AVal} {l:List (Nat × AVal)}:qby xs ((i,v)::l)=qt3 (decide (i < xs.length)) xs i v l:=by
 simp only [qby,qt3,qav]
 cases decide (i < xs.length) <;> rfl
def sliceR (sz:Nat) (h:qn) (xs:List AVal) (ps:Option (List (Nat × AVal))):Option ORes:=match ps with
 | some ps=>sliceS sz h (qby xs ps)
 | none=>none
where sliceS (sz:Nat) (h:qn) (r:Option (List AVal)):Option ORes:=match r with
 | some xs=>some ⟨.list false sz xs,true,none,h⟩
 | none=>none
@[go_sem] theorem q9n {sz:Nat} {xs:List AVal} {ps:List (Nat × AVal)}:sliceR sz h xs (some ps)=sliceR.sliceS sz h (qby xs ps):=rfl
@[go_sem] theorem q9b {sz:Nat} {xs:List AVal}:sliceR.sliceS sz h (some xs)=some ⟨.list false sz xs,true,none,h⟩:=rfl
@[go_sem] theorem q8n {sz len:Nat} {zero:List AVal} {ps:List (Nat × qt)}:qe p xc h0 al e h (.buildSlice sz len zero ps)=sliceR sz h (List.replicate len (bif Nat.beq sz 1 then zero.headD .undef else .agg zero)) (z6 e sz ps):=by
 simp only [qe,qr,sliceR,sliceR.sliceS]
 cases z6 e sz ps with
 | none=>rfl
 | some ps=>simp only []; cases qby (List.replicate len (bif Nat.beq sz 1 then zero.headD .undef else .agg zero)) ps <;> rfl
def appR (sz bytes:Nat) (h:qn) (own:Option Nat) (x y:Option AVal):Option ORes:=match x,y with
 | some (.list n sz' xs),some vy=>ifR (n || own.isSome) (appS sz bytes h own n sz' xs (z7 sz vy))
 | _,_=>none
where appS (sz bytes:Nat) (h:qn) (own:Option Nat) (n:Bool) (sz':Nat) (xs:List AVal) (ys:Option (List AVal)):Option ORes:=match ys with
 | some ys=>ifR ((Nat.beq sz sz' || (xs.isEmpty && n)) && Nat.ble (xs.length + ys.length) 1073741824 && Nat.ble bytes 4096 && Nat.blt 0 sz) (some ⟨qc1 n sz xs ys,true,own,h⟩)
 | none=>none
@[go_sem] theorem jgi {sz bytes:Nat} {own:Option Nat} {n:Bool} {sz':Nat} {xs:List AVal} {vy:AVal}:appR sz bytes h own (some (.list n sz' xs)) (some vy)=ifR (n || own.isSome) (appR.appS sz bytes h own n sz' xs (z7 sz vy)):=rfl
@[go_sem] theorem jgb {sz bytes:Nat} {own:Option Nat} {n:Bool} {sz':Nat} {xs ys:List AVal}:appR.appS sz bytes h own n sz' xs (some ys)=ifR ((Nat.beq sz sz' || (xs.isEmpty && n)) && Nat.ble (xs.length + ys.length) 1073741824 && Nat.ble bytes 4096 && Nat.blt 0 sz) (some ⟨qc1 n sz xs ys,true,own,h⟩):=rfl
@[go_sem] theorem jjp {sz bytes:Nat} {x y:qt}:qe p xc h0 al e h (.append none sz bytes x y)=appR sz bytes h (j6 e x) (qi e x) (qi e y):=by
 simp only [qe,qr,appR,appR.appS]
 cases qi e x with
 | none=>rfl
 | some vx=>
  cases vx with
  | list n sz' xs=>
   cases qi e y with
   | none=>rfl
   | some vy=>
    simp only [ifR]
    cases (n || (j6 e x).isSome) with
    | false=>rfl
    | true=>
     simp only [cond_true]
     cases z7 sz vy with
     | none=>rfl
     | some ys=>simp only []; cases ((Nat.beq sz sz' || (xs.isEmpty && n)) && Nat.ble (xs.length + ys.length) 1073741824 && Nat.ble bytes 4096 && Nat.blt 0 sz) <;> rfl
  | _=>cases qi e y <;> rfl
@[go_sem] theorem q0v {z:Nat} {f:α→AVal} {l:Option (List α)}:z7 z (sl z f l)=some ((l.getD []).map f):=by
 cases l <;> simp [z7,sl]
@[go_sem] theorem jlz {z:Nat} {b:Bool} {xs:List AVal}:z7 z (.list b z xs)=some xs:=by simp [z7]
@[go_sem] theorem jmc {z z':Nat} {b:Bool}:z7 z (.list b z' [])=some []:=by simp [z7]
@[go_sem] theorem q9m {z:Nat} {xs ys:List AVal}:qc1 false z xs ys=.list false z (xs++ys):=rfl
@[go_sem] theorem jb1 {z:Nat} {b:Bool} {xs:List AVal} {y:AVal} {ys:List AVal}:qc1 b z xs (y::ys)=.list false z (xs++y::ys):=by cases b <;> rfl
attribute [go_sem] Option.isSome_some Option.isSome_none Bool.or_true Bool.true_or List.isEmpty_nil List.isEmpty_cons Bool.and_false Bool.false_and
def qnw (h:qn) (i:Nat) (x:Option AVal):Option ORes:=match x with
 | some (.tup vs)=>k8 h vs[i]?
 | _=>none
@[go_sem] theorem q7n {i:Nat} {vs:List AVal}:qnw h i (some (.tup vs))=k8 h vs[i]?:=rfl
@[go_sem] theorem jhe {i:Nat} {x:qt}:qe p xc h0 al e h (.extract x i)=qnw h i (qi e x):=by
 simp only [qe,qr,qnw]
 cases qi e x with
 | none=>rfl
 | some v=>cases v <;> rfl
def un1 (op:UnOp) (h:qn) (x:Option AVal):Option ORes:=match x with
 | some v=>k8 h (qg6 op v)
 | none=>none
@[go_sem] theorem jiv {op:UnOp} {v:AVal}:un1 op h (some v)=k8 h (qg6 op v):=rfl
@[go_sem] theorem jn8 {op:UnOp} {x:qt}:qe p xc h0 al e h (.un op x)=un1 op h (qi e x):=by
 simp only [qe,qr,un1]
 cases qi e x <;> rfl
@[go_sem] theorem jng {b:Bool}:qg6 .not (.bool b)=some (.bool (!b)):=rfl
@[go_sem] theorem jm9 {k:IntKind} {n:Int}:qg6 .neg (.int k n)=some (.int k (qm k (0 - n))):=rfl
def q1a (neq:Bool) (h:qn) (x y:Option AVal):Option ORes:=match x,y with
 | some (.bool a),some (.bool b)=>val h (.bool (bif neq then !(a == b) else a == b))
 | _,_=>none
@[go_sem] theorem jhb {neq a b:Bool}:q1a neq h (some (.bool a)) (some (.bool b))=some ⟨.bool (bif neq then !(a == b) else a == b),false,none,h⟩:=rfl
@[go_sem] theorem jny {neq:Bool} {x y:qt}:qe p xc h0 al e h (.beq neq x y)=q1a neq h (qi e x) (qi e y):=by
 simp only [qe,qr,q1a]
 cases qi e x with
 | none=>rfl
 | some v=>cases v <;> cases qi e y <;> rfl
def qpv (f:Fn) (h:qn) (a b:Option (List AVal)):Option ORes:=match a,b with
 | some a,some b=>val h (.fn f a b)
 | _,_=>none
@[go_sem] theorem q56 {f:Fn} {a b:List AVal}:qpv f h (some a) (some b)=some ⟨.fn f a b,false,none,h⟩:=rfl
@[go_sem] theorem jki {f:Fn} {a b:List qt}:qe p xc h0 al e h (.mkfunc f a b)=qpv f h (yq e a) (yq e b):=by
 simp only [qe,qr,qpv]
 cases yq e a <;> cases yq e b <;> rfl
def mxR (f:AVal→AVal→Option AVal) (h:qn) (l:Option (List AVal)):Option ORes:=match l with
 | some (v::vs)=>k8 h (qbz f v vs)
 | _=>none
@[go_sem] theorem jl4 {f:AVal→AVal→Option AVal} {v:AVal} {vs:List AVal}:mxR f h (some (v::vs))=k8 h (qbz f v vs):=rfl
@[go_sem] theorem jn9 {l:List qt}:qe p xc h0 al e h (.mx l)=mxR max2 h (yq e l):=by
 simp only [qe,qr,mxR]
 cases yq e l with
 | none=>rfl
 | some vs=>cases vs <;> rfl
@[go_sem] theorem jn7 {l:List qt}:qe p xc h0 al e h (.mn l)=mxR min2 h (yq e l):=by
 simp only [qe,qr,mxR]
 cases yq e l with
 | none=>rfl
 | some vs=>cases vs <;> rfl
def qxm (f:AVal→AVal→Option AVal) (x:Option AVal) (l:List AVal):Option AVal:=match x with
 | some z=>qbz f z l
 | none=>none
@[go_sem] theorem jf9 {f:AVal→AVal→Option AVal} {x:AVal} {l:List AVal}:qxm f (some x) l=qbz f x l:=rfl
@[go_sem] theorem jg6 {f:AVal→AVal→Option AVal} {x:AVal}:qbz f x []=some x:=rfl
@[go_sem] theorem jai {f:AVal→AVal→Option AVal} {x y:AVal} {l:List AVal}:qbz f x (y::l)=qxm f (f x y) l:=by
 simp only [qbz,qxm]; rfl
@[go_sem] theorem jip {k:IntKind} {x y:Int}:max2 (.int k x) (.int k y)=some (.int k (max x y)):=by
 simp only [max2,decide_true,cond_true]
 congr 2
 by_cases h:y > x
 ·rw [if_pos h]; omega
 ·rw [if_neg h]; omega
@[go_sem] theorem jjh {k:IntKind} {x y:Int}:min2 (.int k x) (.int k y)=some (.int k (min x y)):=by
 simp only [min2,decide_true,cond_true]
 congr 2
 by_cases h:y < x
 ·rw [if_pos h]; omega
 ·rw [if_neg h]; omega
def q0q (k:Nat) (neq:Bool) (h:qn) (x:Option AVal):Option ORes:=match k,x with
  | 0,some (.list n _ _)=>val h (.bool (bif neq then !n else n))
  | 0,some (.ms ..)=>val h (.bool neq)
  | 1,some .nilptr=>val h (.bool (!neq))
  | 1,some (.ptr ..)=>val h (.bool neq)
  | 1,some (.vptr ..)=>val h (.bool neq)
  | 2,some .nilmap=>val h (.bool (!neq))
  | 2,some (.map ..)=>val h (.bool neq)
  | 3,some .nilfn=>val h (.bool (!neq))
  | 3,some (.fn ..)=>val h (.bool neq)
  | _,_=>none
@[go_sem] theorem jmk {k:Nat} {neq:Bool} {x:qt}:qe p xc h0 al e h (.nilEq k neq x)=q0q k neq h (qi e x):=rfl
@[go_sem] theorem jf3 {neq n:Bool} {z:Nat} {xs:List AVal}:q0q 0 neq h (some (.list n z xs))=some ⟨.bool (bif neq then !n else n),false,none,h⟩:=rfl
@[go_sem] theorem jgy {n:Nat} {k:IntKind} {i:Int}:below n (.int k i)=true:=rfl
@[go_sem] theorem jam {n:Nat} {b:Bool}:below n (.bool b)=true:=rfl
@[go_sem] theorem jgf {n:Nat} {s:List UInt8}:below n (.str s)=true:=rfl
@[go_sem] theorem jae {n:Nat} {b:Bool} {z:Nat} {xs:List AVal}:below n (.list b z xs)=js n xs:=by simp only [below]
@[go_sem] theorem jhx {n:Nat} {xs:List AVal}:below n (.agg xs)=js n xs:=by simp only [below]
@[go_sem] theorem jhf {n:Nat} {xs:List AVal}:below n (.tup xs)=js n xs:=by simp only [below]
@[go_sem] theorem jge {n b o:Nat}:below n (.ptr b o)=decide (b < n):=by simp only [below,qav]
@[go_sem] theorem jgq {n b:Nat}:below n (.map b)=decide (b < n):=by simp only [below,qav]
@[go_sem] theorem jk4 {n k:Nat} {a b:List AVal}:below n (.fn (.func k) a b)=(js n a && js n b):=by simp only [below]
@[go_sem] theorem jf1 {n:Nat}:js n []=true:=by simp only [js]
@[go_sem] theorem qu2 {n:Nat} {x:AVal} {xs:List AVal}:js n (x::xs)=(below n x && js n xs):=by simp only [js]
@[go_sem] theorem jdo {n:Nat} {i:Int}:below n (qp i)=true:=rfl
@[go_sem] theorem jfq {n z:Nat} {l:Option (List Int)}:below n (sl z qp l)=true:=qje fun _=>rfl
theorem qoz {n:Nat} {f:α→AVal} (hf:∀ x,below n (f x)=true):∀ l:List α,js n (l.map f)=true
 | []=>rfl
 | x::l=>by rw [List.map_cons,qu2,hf,qoz hf l]; rfl
@[go_sem] theorem q9p {n:Nat} {l:List Int}:js n (l.map qp)=true:=qoz (fun _=>rfl) l
@[go_sem] theorem jmm {k:IntKind} {i:Int}:kz h (.int k i)=some (.int k i):=rfl
@[go_sem] theorem jlx {b:Bool}:kz h (.bool b)=some (.bool b):=rfl
@[go_sem] theorem jmp {s:List UInt8}:kz h (.str s)=some (.str s):=rfl
@[go_sem] theorem jlr {b:Bool} {z:Nat} {xs:List AVal}:kz h (.list b z xs)=some (.list b z xs):=rfl
@[go_sem] theorem q7i {z:Nat} {f:α→AVal} {l:Option (List α)}:kz h (sl z f l)=some (sl z f l):=by cases l <;> rfl
@[go_sem] theorem jj3:kx h []=some []:=rfl
@[go_sem] theorem jgv {v:AVal} {vs:List AVal}:kx h (v::vs)=qcl (kz h v) (kx h vs):=by
 simp only [kx,qcl]
 cases kz h v with
 | none=>rfl
 | some x=>cases kx h vs <;> rfl
def qyc (l:Option (List AVal)):Option AVal:=match l with
 | some xs=>some (.agg xs)
 | none=>none
@[go_sem] theorem jgd {xs:List AVal}:qyc (some xs)=some (.agg xs):=rfl
@[go_sem] theorem jl6 {cs:List AVal}:freezeR h (.agg cs)=qyc (kx h cs):=by
 simp only [freezeR,qyc]
 cases kx h cs <;> rfl
@[go_sem] theorem jj2 {k:IntKind} {i:Int}:freezeR h (.int k i)=some (.int k i):=rfl
@[go_sem] theorem jhc {b:Bool}:freezeR h (.bool b)=some (.bool b):=rfl
@[go_sem] theorem ji1 {s:List UInt8}:freezeR h (.str s)=some (.str s):=rfl
@[go_sem] theorem jh5 {b:Bool} {z:Nat} {xs:List AVal}:freezeR h (.list b z xs)=some (.list b z xs):=rfl
@[go_sem] theorem jme {z:Nat} {f:α→AVal} {l:Option (List α)}:freezeR h (sl z f l)=some (sl z f l):=by cases l <;> rfl
def q05 (l:Option (List AVal)):Option AVal:=match l with
 | some xs=>some (.tup xs)
 | none=>none
@[go_sem] theorem jgo {xs:List AVal}:q05 (some xs)=some (.tup xs):=rfl
@[go_sem] theorem jlw {cs:List AVal}:freezeR h (.tup cs)=q05 (freezeR.freezeT h cs):=by
 simp only [freezeR,q05]
 cases freezeR.freezeT h cs <;> rfl
@[go_sem] theorem jiw:freezeR.freezeT h []=some []:=rfl
@[go_sem] theorem jii {cs vs:List AVal}:freezeR.freezeT h (.agg cs::vs)=qcl (qyc (kx h cs)) (freezeR.freezeT h vs):=by
 rw [freezeR.freezeT]
 cases kx h cs with
 | none=>rfl
 | some x=>cases freezeR.freezeT h vs <;> rfl
theorem qgn {v:AVal} {vs:List AVal} (hv:v.isAgg=false):freezeR.freezeT h (v::vs)=qcl (kz h v) (freezeR.freezeT h vs):=by
 have:∀ cs,v ≠ .agg cs:=fun cs hc=>by rw [hc] at hv; cases hv
 rw [freezeR.freezeT]
 ·cases kz h v with
  | none=>rfl
  | some x=>cases freezeR.freezeT h vs <;> rfl
 ·exact this
@[go_sem] theorem jkb {k:IntKind} {i:Int} {vs:List AVal}:freezeR.freezeT h (.int k i::vs)=qcl (some (.int k i)) (freezeR.freezeT h vs):=qgn rfl
@[go_sem] theorem jhy {b:Bool} {vs:List AVal}:freezeR.freezeT h (.bool b::vs)=qcl (some (.bool b)) (freezeR.freezeT h vs):=qgn rfl
@[go_sem] theorem jk5 {s:List UInt8} {vs:List AVal}:freezeR.freezeT h (.str s::vs)=qcl (some (.str s)) (freezeR.freezeT h vs):=qgn rfl
@[go_sem] theorem jgt {b:Bool} {z:Nat} {xs vs:List AVal}:freezeR.freezeT h (.list b z xs::vs)=qcl (some (.list b z xs)) (freezeR.freezeT h vs):=qgn rfl
@[go_sem] theorem jmf {z:Nat} {f:α→AVal} {l:Option (List α)} {vs:List AVal}:freezeR.freezeT h (sl z f l::vs)=qcl (some (sl z f l)) (freezeR.freezeT h vs):=by
 rw [qgn (by cases l <;> rfl),q7i]
attribute [go_sem] List.contains_cons List.contains_nil
@[go_sem] theorem jmt {a b:Nat}:(a == b)=decide (a=b):=by
 by_cases hab:a=b <;> simp [hab]
def qou (agg:Bool) (c:Option (AVal × Bool)) (vs:Option (List AVal)):Option (AVal × Bool):=match vs,agg with
 | some vs,true=>some (.agg vs,false)
 | some _,false=>c
 | none,_=>none
@[go_sem] theorem jif {c:Option (AVal × Bool)} {vs:List AVal}:qou true c (some vs)=some (.agg vs,false):=rfl
@[go_sem] theorem jgm {c:Option (AVal × Bool)} {vs:List AVal}:qou false c (some vs)=c:=rfl
def qr8 (agg:Bool) (o n:Nat) (cs:Option (List (AVal × Bool))):Option (AVal × Bool):=match cs with
 | some cs=>qou agg cs[o]? (zq cs o n)
 | none=>none
@[go_sem] theorem jan {agg:Bool} {o n:Nat} {cs:List (AVal × Bool)}:qr8 agg o n (some cs)=qou agg cs[o]? (zq cs o n):=rfl
def qwz (agg:Bool) (n:Nat) (h:qn) (x:Option (AVal × Bool)):Option (AVal × Bool):=match x with
 | some (.ptr b o,_)=>qr8 agg o n (jq h b)
 | _=>none
@[go_sem] theorem jhp {agg:Bool} {n b o:Nat} {w:Bool}:qwz agg n h (some (.ptr b o,w))=qr8 agg o n (jq h b):=rfl
@[go_sem] theorem q5t {t n:Nat} {agg:Bool}:qa8 ⟨e,h⟩ (.cell t agg n)=qwz agg n h (look t e):=by
 simp only [qa8,qwz]
 cases look t e with
 | none=>rfl
 | some x=>
  obtain ⟨v,w⟩:=x
  cases v with
  | ptr b o=>
   simp only [qr8]
   cases jq h b with
   | none=>rfl
   | some cs=>
    simp only [qou]
    cases zq cs o n with
    | none=>rfl
    | some vs=>cases agg with
     | true=>rfl
     | false=>simp only [cond_false]; cases cs[o]? <;> rfl
  | _=>rfl
theorem qoj {k:Nat} {args:List AVal} {v v':AVal} {o:Bool} (hp:p.prims k=none) (hc:jm p xc k args []=some (v,o,h)) (hz:freezeR h v=some v') (hv:below 0 v'=true):qd p xc k args=some (v',o && v.isList):=by
 unfold qd
 rw [hp]
 simp only [hc,hz,qb0,hv,cond_true]
end
end Go.Abs
