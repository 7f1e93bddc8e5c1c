/- Equations of the executor, second part. -/
import Derived.Test.YtnjngdcbkkonnaaGreatDoorAbsI
set_option linter.unusedVariables false
set_option linter.unusedSimpArgs false
namespace Go.Abs
section
variable {p:jk} {xc:XC} {h0:Nat} {al:Option (List Nat)} {e:Env} {h:qh} {α:Type}
attribute [go_sem] List.getElem?_cons_zero List.getElem?_cons_succ List.getElem?_nil List.set_cons_zero List.set_cons_succ List.set_nil List.cons_append List.replicate_zero List.replicate_succ List.map_cons List.map_nil List.all_cons List.all_nil List.drop_zero List.drop_succ_cons List.take_zero List.take_succ_cons List.drop_nil List.take_nil Bool.and_true Bool.true_and Bool.or_false Bool.false_or Bool.and_self List.headD_cons List.foldl_cons List.foldl_nil List.flatMap_cons List.flatMap_nil
@[go_sem] theorem jlw {k:IntKind} {n:Int}:qn (.int k n)=true:=rfl
@[go_sem] theorem jk1 {b:Bool}:qn (.bool b)=true:=rfl
@[go_sem] theorem jl9 {s:List UInt8}:qn (.str s)=true:=rfl
@[go_sem] theorem jlh {b:Bool} {z:Nat} {xs:List AVal}:qn (.list b z xs)=true:=rfl
@[go_sem] theorem jmc {b o n:Nat}:qn (.ms b o n)=true:=rfl
@[go_sem] theorem jlx {b o:Nat}:qn (.ptr b o)=true:=rfl
@[go_sem] theorem jl0 {b:Nat}:qn (.map b)=true:=rfl
@[go_sem] theorem jfs:qn .nilptr=true:=rfl
@[go_sem] theorem jha:qn .nilmap=true:=rfl
@[go_sem] theorem jiz:qn .nilfn=true:=rfl
@[go_sem] theorem jmi {f:Fn} {a b:List AVal}:qn (.fn f a b)=true:=rfl
@[go_sem] theorem jml {z:Nat} {f:α→AVal} {l:Option (List α)}:qn (sl z f l)=true:=by cases l <;> rfl
@[go_sem] theorem jj9 {cs:List AVal}:AVal.flat (.agg cs)=cs:=rfl
@[go_sem] theorem ji1 {k:IntKind} {n:Int}:AVal.flat (.int k n)=[.int k n]:=rfl
@[go_sem] theorem jfw {b:Bool}:AVal.flat (.bool b)=[.bool b]:=rfl
@[go_sem] theorem jix {s:List UInt8}:AVal.flat (.str s)=[.str s]:=rfl
@[go_sem] theorem jfh {b:Bool} {z:Nat} {xs:List AVal}:AVal.flat (.list b z xs)=[.list b z xs]:=rfl
@[go_sem] theorem jla {z:Nat} {f:α→AVal} {l:Option (List α)}:AVal.flat (sl z f l)=[sl z f l]:=by cases l <;> rfl
@[go_sem] theorem jkj {b o:Nat}:AVal.flat (.ptr b o)=[.ptr b o]:=rfl
@[go_sem] theorem jhy {b:Nat}:AVal.flat (.map b)=[.map b]:=rfl
@[go_sem] theorem jkz {f:Fn} {a b:List AVal}:AVal.flat (.fn f a b)=[.fn f a b]:=rfl
@[go_sem] theorem jlj {b o n:Nat}:AVal.flat (.ms b o n)=[.ms b o n]:=rfl
@[go_sem] theorem qlo {a b:Nat}:Nat.beq a b=decide (a=b):=by
 cases h:Nat.beq a b with
 | true=>have:=Nat.eq_of_beq_eq_true h; simp [this]
 | false=>
  have:a ≠ b:=fun hh=>by subst hh; simp at h
  simp [this]
@[go_sem] theorem k9 {a b:Nat}:Nat.ble a b=decide (a≤b):=by
 cases h:Nat.ble a b with
 | true=>have:=Nat.le_of_ble_eq_true h; simp [this]
 | false=>
  have:¬ a≤b:=fun hh=>by rw [Nat.ble_eq_true_of_le hh] at h; cases h
  simp [this]
@[go_sem] theorem qbu {a b:Nat}:Nat.blt a b=decide (a < b):=by
 show Nat.ble (a + 1) b=_
 rw [k9]; rfl
@[go_sem] theorem jhf {b:Nat}:jx h0 none b=true:=rfl
@[go_sem] theorem jk4:exl []=false:=rfl
@[go_sem] theorem ji2 {k:Nat} {l:List Nat}:exl (k::l)=decide (1000≤k):=by simp only [exl,k9]
@[go_sem] theorem jic {k b:Nat} {l:List Nat}:exq h0 (k::l) b=cond (decide (k < 2000)) (decide (b=k - 1000) && decide (b < h0)) (decide (b=h0 + (k - 2000))):=by
 have e:∀ x y:Nat,Nat.beq x y=decide (x=y):=fun x y=>by
  cases h:Nat.beq x y with
  | true=>rw [Nat.eq_of_beq_eq_true h]; simp
  | false=>
   have:x ≠ y:=fun e=>by rw [e,Nat.beq_refl] at h; cases h
   simp [this]
 simp only [exq,qbu,e]
@[go_sem] theorem jdn {b:Nat} {l:List Nat}:jx h0 (some l) b=cond (exl l) (exq h0 l b) (decide (b < h0) || l.contains (b - h0)):=by simp only [jx,qbu]
def kf (r:Option qh) (v:AVal):Option ORes:=match r with
 | some h'=>some ⟨v,false,none,h'⟩
 | none=>none
@[go_sem] theorem jf6 {v:AVal}:kf (some h) v=some ⟨v,false,none,h⟩:=rfl
@[go_sem] theorem jfz {h0 r:Nat} {es:List (AVal × AVal)}:qxl h0 r h true (some es)=kf (newBox h0 h r (.map es)) (.map (h0 + r)):=rfl
def q1d (n:Nat) (h:qh) (b:Option ABox) (x:ABox):Option qh:=match b with
 | some .hole=>some (h.set n x)
 | _=>none
@[go_sem] theorem jgy {n:Nat} {x:ABox}:q1d n h (some .hole) x=some (h.set n x):=rfl
@[go_sem] theorem jfq {r:Nat} {x:ABox}:newBox h0 h r x=q1d (h0 + r) h h[h0 + r]? x:=by
 unfold newBox q1d; rfl
def ifR (b:Bool) (r:Option ORes):Option ORes:=match b with
 | true=>r
 | false=>none
@[go_sem] theorem jii {r:Option ORes}:ifR true r=r:=rfl
@[go_sem] theorem jky {r:Nat} {z:List AVal}:qc p xc h0 al e h (.alloc r z)=ifR (z.all qn) (kf (newBox h0 h r (.cells (cellsOf z))) (.ptr (h0 + r) 0)):=by
 simp only [qc,qu,ifR]
 cases z.all qn with
 | false=>rfl
 | true=>simp only [cond_true,kf]; cases newBox h0 h r (.cells (cellsOf z)) <;> rfl
def qw1 (n:Nat) (h:qh) (x:Option AVal):Option ORes:=match x with
 | some v=>ifR (Nat.beq v.flat.length n && v.flat.all qn) (some ⟨.vptr v,false,none,h⟩)
 | none=>none
@[go_sem] theorem jdm {n:Nat} {v:AVal}:qw1 n h (some v)=ifR (Nat.beq v.flat.length n && v.flat.all qn) (some ⟨.vptr v,false,none,h⟩):=rfl
@[go_sem] theorem jlo {n:Nat} {x:qp}:qc p xc h0 al e h (.vbox n x)=qw1 n h (qf e x):=by
 simp only [qc,qo,qw1]
 cases qf e x with
 | none=>rfl
 | some v=>
  simp only [ifR]
  cases (Nat.beq v.flat.length n && v.flat.all qn) <;> rfl
def q1s (h0 r n:Nat) (h:qh) (x:Option AVal):Option ORes:=match x with
 | some v=>ifR (Nat.beq v.flat.length n && v.flat.all qn) (kf (newBox h0 h r (.cells (cellsOf v.flat))) (.ptr (h0 + r) 0))
 | none=>none
@[go_sem] theorem jff {r n:Nat} {v:AVal}:q1s h0 r n h (some v)=ifR (Nat.beq v.flat.length n && v.flat.all qn) (kf (newBox h0 h r (.cells (cellsOf v.flat))) (.ptr (h0 + r) 0)):=rfl
@[go_sem] theorem jmt {r n:Nat} {x:qp}:qc p xc h0 al e h (.box r n x)=q1s h0 r n h (qf e x):=by
 simp only [qc,qu,q1s]
 cases qf e x with
 | none=>rfl
 | some v=>
  simp only [ifR,kf]
  cases (Nat.beq v.flat.length n && v.flat.all qn) with
  | false=>rfl
  | true=>simp only [cond_true]; cases newBox h0 h r (.cells (cellsOf v.flat)) <;> rfl
@[go_sem] theorem q4y {r:Nat}:qc p xc h0 al e h (.mkmap r)=kf (newBox h0 h r (.map [])) (.map (h0 + r)):=by
 simp only [qc,qu,kf]
 cases newBox h0 h r (.map []) <;> rfl
@[go_sem] theorem q8t:cellsOf []=[]:=rfl
@[go_sem] theorem q5i {v:AVal} {vs:List AVal}:cellsOf (v::vs)=(v,false)::cellsOf vs:=rfl
def qde (agg:Bool) (h:qh) (r:Option AVal):Option ORes:=match r with
 | some v=>bif Bool.xor agg v.isAgg then none else val h (.vptr v)
 | none=>none
def qdg (agg:Bool) (off n:Nat) (h:qh) (x:Option AVal):Option ORes:=match x with
 | some (.ptr b o)=>val h (.ptr b (o + off))
 | some (.vptr (.agg cs))=>qde agg h (part agg cs off n)
 | _=>none
@[go_sem] theorem q5f {agg:Bool} {off n b o:Nat}:qdg agg off n h (some (.ptr b o))=some ⟨.ptr b (o + off),false,none,h⟩:=rfl
@[go_sem] theorem q4l {agg:Bool} {off n:Nat} {cs:List AVal}:qdg agg off n h (some (.vptr (.agg cs)))=qde agg h (part agg cs off n):=rfl
@[go_sem] theorem q8k {agg:Bool} {off n:Nat} {x:qp}:qc p xc h0 al e h (.fieldAddr agg off n x)=qdg agg off n h (qf e x):=by
 simp only [qc,qo,qdg]
 cases qf e x with
 | none=>rfl
 | some v=>cases v with
  | vptr v=>cases v <;> rfl
  | _=>rfl
def jlr (v:AVal):Prop:=v.isAgg=false
theorem jhe {v:AVal} (hv:v.isAgg=false):qde false h (some v)=some ⟨.vptr v,false,none,h⟩:=by simp [qde,hv,val]
@[go_sem] theorem jgn {k:IntKind} {n:Int}:qde false h (some (.int k n))=some ⟨.vptr (.int k n),false,none,h⟩:=rfl
@[go_sem] theorem jfo {s:List UInt8}:qde false h (some (.str s))=some ⟨.vptr (.str s),false,none,h⟩:=rfl
@[go_sem] theorem jdl {b:Bool}:qde false h (some (.bool b))=some ⟨.vptr (.bool b),false,none,h⟩:=rfl
@[go_sem] theorem jh1 {z:Nat} {f:α→AVal} {l:Option (List α)}:qde false h (some (sl z f l))=some ⟨.vptr (sl z f l),false,none,h⟩:=by cases l <;> rfl
@[go_sem] theorem jhd {cs:List AVal}:qde true h (some (.agg cs))=some ⟨.vptr (.agg cs),false,none,h⟩:=rfl
@[go_sem] theorem jks {cs:List AVal} {off n:Nat}:part false cs off n=cs[off]?:=rfl
def qwh (b:Bool) (cs:List AVal) (off n:Nat):Option AVal:=match b with
 | true=>some (.agg ((cs.drop off).take n))
 | false=>none
@[go_sem] theorem jat {cs:List AVal} {off n:Nat}:qwh true cs off n=some (.agg ((cs.drop off).take n)):=rfl
@[go_sem] theorem jkl {cs:List AVal} {off n:Nat}:part true cs off n=qwh (decide (off + n≤cs.length)) cs off n:=by
 simp only [part,qwh,cond_true,k9]
 cases decide (off + n≤cs.length) <;> rfl
@[go_sem] theorem jkw {z:Nat} {f:α→AVal} {l:Option (List α)}:qao h0 al false 1 h (some (.vptr (sl z f l)))=some ⟨sl z f l,false,none,h⟩:=by cases l <;> rfl
def q1z (h:qh) (cs:List AVal) (b:Bool):Option ORes:=match b with
 | true=>some ⟨.agg cs,false,none,h⟩
 | false=>none
@[go_sem] theorem jfp {cs:List AVal}:q1z h cs true=some ⟨.agg cs,false,none,h⟩:=rfl
@[go_sem] theorem q9r {n:Nat} {cs:List AVal}:qao h0 al true n h (some (.vptr (.agg cs)))=q1z h cs (decide (cs.length=n)):=by
 unfold q1z
 by_cases hn:cs.length=n
 ·rw [qyi hn]; simp [hn]
 ·simp [qao,AVal.isAgg,AVal.flat,hn,qlo]
def qso (agg:Bool) (h:qh) (vs:Option (List AVal)):Option ORes:=match vs with
 | some vs=>bif agg then val h (.agg vs) else (match vs with
  | [v]=>val h v
  | _=>none)
 | none=>none
@[go_sem] theorem jhu {vs:List AVal}:qso true h (some vs)=some ⟨.agg vs,false,none,h⟩:=rfl
@[go_sem] theorem jj2 {v:AVal}:qso false h (some [v])=some ⟨v,false,none,h⟩:=rfl
def qs9 (b:Option ABox):Option (List (AVal × Bool)):=match b with
 | some (.cells cs)=>some cs
 | _=>none
@[go_sem] theorem q88 {cs:List (AVal × Bool)}:qs9 (some (.cells cs))=some cs:=rfl
@[go_sem] theorem q9k {b:Nat}:jq h b=qs9 h[b]?:=by unfold jq qs9; rfl
def ldC (b:Bool) (cs:List (AVal × Bool)) (off n:Nat):Option (List AVal):=match b with
 | true=>some (((cs.drop off).take n).map (·.1))
 | false=>none
@[go_sem] theorem jji {cs:List (AVal × Bool)} {off n:Nat}:ldC true cs off n=some (((cs.drop off).take n).map (·.1)):=rfl
@[go_sem] theorem q8c {cs:List (AVal × Bool)} {off n:Nat}:yf cs off n=ldC (decide (off + n≤cs.length)) cs off n:=by
 simp only [yf,ldC,k9]
 cases decide (off + n≤cs.length) <;> rfl
def q0v (agg:Bool) (o n:Nat) (h:qh) (cs:Option (List (AVal × Bool))):Option ORes:=match cs with
 | some cs=>qso agg h (yf cs o n)
 | none=>none
@[go_sem] theorem jfy {agg:Bool} {o n:Nat} {cs:List (AVal × Bool)}:q0v agg o n h (some cs)=qso agg h (yf cs o n):=rfl
@[go_sem] theorem jga {agg:Bool} {n b o:Nat}:qao h0 al agg n h (some (.ptr b o))=ifR (jx h0 al b) (q0v agg o n h (jq h b)):=by
 simp only [qao,ifR,q0v,qso]
 cases jx h0 al b with
 | false=>rfl
 | true=>
  simp only [cond_true]
  cases jq h b with
  | none=>rfl
  | some cs=>simp only []; cases yf cs o n <;> rfl
def qq2 (r:Option qh) (v:AVal) (w:Bool):Option ORes:=match r with
 | some h'=>some ⟨v,w,none,h'⟩
 | none=>none
@[go_sem] theorem jch {v:AVal} {w:Bool}:qq2 (some h) v w=some ⟨v,w,none,h⟩:=rfl
def qq9 (h:qh) (b o:Nat) (cs:List (AVal × Bool)) (x:Option (AVal × Bool)):Option ORes:=match x with
 | some (v,w)=>qq2 (jo h b (.cells (cs.set o (v,false)))) v w
 | none=>none
@[go_sem] theorem jed {b o:Nat} {cs:List (AVal × Bool)} {v:AVal} {w:Bool}:qq9 h b o cs (some (v,w))=qq2 (jo h b (.cells (cs.set o (v,false)))) v w:=rfl
def qq4 (h:qh) (b o:Nat) (cs:Option (List (AVal × Bool))):Option ORes:=match cs with
 | some cs=>qq9 h b o cs cs[o]?
 | none=>none
@[go_sem] theorem jeu {b o:Nat} {cs:List (AVal × Bool)}:qq4 h b o (some cs)=qq9 h b o cs cs[o]?:=rfl
def qk8 (h0:Nat) (al:Option (List Nat)) (off:Option Nat) (h:qh) (x:Option AVal):Option ORes:=match x with
 | some (.ptr b o)=>ifR (jx h0 al b && qd3 off o) (qq4 h b o (jq h b))
 | _=>none
@[go_sem] theorem q40 {off:Option Nat} {b o:Nat}:qk8 h0 al off h (some (.ptr b o))=ifR (jx h0 al b && qd3 off o) (qq4 h b o (jq h b)):=rfl
@[go_sem] theorem je6 {o:Nat}:qd3 none o=true:=rfl
@[go_sem] theorem jbt {a o:Nat}:qd3 (some a) o=decide (a=o):=by simp only [qd3,qlo]
@[go_sem] theorem jes {off:Option Nat} {x:qp}:qc p xc h0 al e h (.loadTake off x)=qk8 h0 al off h (qf e x):=by
 simp only [qc,qu,qk8]
 cases qf e x with
 | none=>rfl
 | some v=>cases v with
  | ptr b o=>
   simp only [ifR,qq4,qq9,qq2]
   cases (jx h0 al b && qd3 off o) with
   | false=>rfl
   | true=>
    simp only [cond_true]
    cases jq h b with
    | none=>rfl
    | some cs=>
     simp only []
     cases cs[o]? with
     | none=>rfl
     | some c=>
      obtain ⟨v,w⟩:=c
      simp only []
      cases jo h b (.cells (cs.set o (v,false))) <;> rfl
  | _=>rfl
def q17 (b:Bool) (n:Nat) (x:ABox) (h:qh):Option qh:=match b with
 | true=>some (h.set n x)
 | false=>none
@[go_sem] theorem jg0 {n:Nat} {x:ABox}:q17 true n x h=some (h.set n x):=rfl
@[go_sem] theorem jg9 {b:Nat} {x:ABox}:jo h b x=q17 (decide (b < h.length)) b x h:=by
 simp only [jo,q17,qbu]
 cases decide (b < h.length) <;> rfl
def stC (b:Bool) (cs:List (AVal × Bool)) (off:Nat) (vs:List AVal):Option (List (AVal × Bool)):=match b with
 | true=>some (cs.take off++vs.map (·,false)++cs.drop (off + vs.length))
 | false=>none
@[go_sem] theorem jib {cs:List (AVal × Bool)} {off:Nat} {vs:List AVal}:stC true cs off vs=some (cs.take off++vs.map (·,false)++cs.drop (off + vs.length)):=rfl
@[go_sem] theorem q5h {cs:List (AVal × Bool)} {off:Nat} {vs:List AVal}:yr cs off vs=stC (decide (off + vs.length≤cs.length) && vs.all qn) cs off vs:=by
 simp only [yr,stC,k9]
 cases (decide (off + vs.length≤cs.length) && vs.all qn) <;> rfl
def jmz (e:Env) (x:qp):Option Nat:=j4 e x
def qx2 (t:Nat) (x:Option (AVal × Bool)):Option Nat:=match x with
 | some (_,true)=>some t
 | _=>none
@[go_sem] theorem jf4 {t:Nat} {v:AVal}:qx2 t (some (v,true))=some t:=rfl
@[go_sem] theorem jco {t:Nat} {v:AVal}:qx2 t (some (v,false))=none:=rfl
@[go_sem] theorem jfl {t:Nat}:j4 e (.tmp t)=qx2 t (jf t e):=by
 simp only [j4,qx2]; rfl
@[go_sem] theorem q9a {v:AVal}:j4 e (.const v)=none:=rfl
def qlx (h:qh) (b:Nat) (cs:Option (List (AVal × Bool))):Option ORes:=match cs with
 | some cs'=>kf (jo h b (.cells cs')) .undef
 | none=>none
@[go_sem] theorem q7j {b:Nat} {cs:List (AVal × Bool)}:qlx h b (some cs)=kf (jo h b (.cells cs)) .undef:=rfl
def qq0 (t:Nat) (r:Option qh):Option ORes:=match r with
 | some h'=>some ⟨.undef,false,some t,h'⟩
 | none=>none
@[go_sem] theorem q9y {t:Nat}:qq0 t (some h)=some ⟨.undef,false,some t,h⟩:=rfl
def qkt (n:Nat) (h:qh) (b o:Nat) (v:AVal) (own:Option Nat) (cs:Option (List (AVal × Bool))):Option ORes:=match cs,own with
 | some cs,some t=>ifR (Nat.beq n 1 && v.isList && Nat.blt o cs.length) (qq0 t (jo h b (.cells (cs.set o (v,true)))))
 | some cs,none=>ifR (Nat.beq v.flat.length n) (qlx h b (yr cs o v.flat))
 | none,_=>none
@[go_sem] theorem jad {n b o t:Nat} {v:AVal} {cs:List (AVal × Bool)}:qkt n h b o v (some t) (some cs)=ifR (Nat.beq n 1 && v.isList && Nat.blt o cs.length) (qq0 t (jo h b (.cells (cs.set o (v,true))))):=rfl
@[go_sem] theorem q5q {n b o:Nat} {v:AVal} {cs:List (AVal × Bool)}:qkt n h b o v none (some cs)=ifR (Nat.beq v.flat.length n) (qlx h b (yr cs o v.flat)):=rfl
def qs4 (h0:Nat) (al:Option (List Nat)) (n:Nat) (h:qh) (own:Option Nat) (a x:Option AVal):Option ORes:=match a,x with
 | some (.ptr b o),some v=>ifR (jx h0 al b) (qkt n h b o v own (jq h b))
 | _,_=>none
@[go_sem] theorem je5 {n b o:Nat} {own:Option Nat} {v:AVal}:qs4 h0 al n h own (some (.ptr b o)) (some v)=ifR (jx h0 al b) (qkt n h b o v own (jq h b)):=rfl
@[go_sem] theorem jk2 {n:Nat} {a x:qp}:qc p xc h0 al e h (.store n a x)=qs4 h0 al n h (j4 e x) (qf e a) (qf e x):=by
 simp only [qc,qu,qs4]
 cases qf e a with
 | none=>rfl
 | some va=>
  cases va with
  | ptr b o=>
   cases qf e x with
   | none=>rfl
   | some v=>
    simp only [ifR]
    cases jx h0 al b with
    | false=>rfl
    | true=>
     simp only [cond_true]
     cases jq h b with
     | none=>rfl
     | some cs=>
      simp only [qkt]
      cases j4 e x with
      | none=>
       simp only [ifR,qlx,kf]
       cases Nat.beq v.flat.length n with
       | false=>rfl
       | true=>
        simp only [cond_true]
        cases yr cs o v.flat with
        | none=>rfl
        | some cs'=>simp only []; cases jo h b (.cells cs') <;> rfl
      | some t=>
       simp only [ifR,qq0]
       cases (Nat.beq n 1 && v.isList && Nat.blt o cs.length) with
       | false=>rfl
       | true=>simp only [cond_true]; cases jo h b (.cells (cs.set o (v,true))) <;> rfl
  | _=>rfl
@[go_sem] theorem q8l {b:Bool} {z:Nat} {xs:List AVal}:AVal.isList (.list b z xs)=true:=rfl
@[go_sem] theorem jgc {z:Nat} {f:α→AVal} {l:Option (List α)}:AVal.isList (sl z f l)=true:=by cases l <;> rfl
def qob (b:Bool) (off:Nat) (vs:List AVal) (l:Option (List (Nat × List AVal))):Option (List (Nat × List AVal)):=match b,l with
 | true,some r=>some ((off,vs)::r)
 | _,_=>none
@[go_sem] theorem q8r {off:Nat} {vs:List AVal} {r:List (Nat × List AVal)}:qob true off vs (some r)=some ((off,vs)::r):=rfl
def qri (x:Option AVal) (off n:Nat) (l:Option (List (Nat × List AVal))):Option (List (Nat × List AVal)):=match x with
 | some v=>qob (Nat.beq v.flat.length n && v.flat.all qn) off v.flat l
 | none=>none
@[go_sem] theorem q81 {v:AVal} {off n:Nat} {l:Option (List (Nat × List AVal))}:qri (some v) off n l=qob (Nat.beq v.flat.length n && v.flat.all qn) off v.flat l:=rfl
@[go_sem] theorem q5a:ye e []=some []:=rfl
@[go_sem] theorem q4j {off n:Nat} {x:qp} {l:List (Nat × Nat × qp)}:ye e ((off,n,x)::l)=qri (qf e x) off n (ye e l):=by
 simp only [ye,qri,qob]
 cases qf e x with
 | none=>rfl
 | some v=>simp only []; cases (Nat.beq v.flat.length n && v.flat.all qn) <;> cases ye e l <;> rfl
def fillR (h:qh) (zero:List AVal) (ps:Option (List (Nat × List AVal))):Option ORes:=match ps with
 | some ps=>fillS h (qak zero ps)
 | none=>none
where fillS (h:qh) (r:Option (List AVal)):Option ORes:=match r with
 | some cs=>some ⟨.agg cs,false,none,h⟩
 | none=>none
@[go_sem] theorem jb1 {zero:List AVal} {ps:List (Nat × List AVal)}:fillR h zero (some ps)=fillR.fillS h (qak zero ps):=rfl
@[go_sem] theorem jbc {cs:List AVal}:fillR.fillS h (some cs)=some ⟨.agg cs,false,none,h⟩:=rfl
@[go_sem] theorem jle {zero:List AVal} {ps:List (Nat × Nat × qp)}:qc p xc h0 al e h (.build zero ps)=fillR h zero (ye e ps):=by
 simp only [qc,qo,fillR,fillR.fillS]
 cases ye e ps with
 | none=>rfl
 | some ps=>simp only []; cases qak zero ps <;> rfl
@[go_sem] theorem jg5 {cs:List AVal}:qak cs []=some cs:=rfl
def qxt (b:Bool) (cs:List AVal) (off:Nat) (vs:List AVal) (l:List (Nat × List AVal)):Option (List AVal):=match b with
 | true=>qak (cs.take off++vs++cs.drop (off + vs.length)) l
 | false=>none
@[go_sem] theorem jaa {cs:List AVal} {off:Nat} {vs:List AVal} {l:List (Nat × List AVal)}:qxt true cs off vs l=qak (cs.take off++vs++cs.drop (off + vs.length)) l:=rfl
@[go_sem] theorem je4 {cs:List AVal} {off:Nat} {vs:List AVal} {l:List (Nat × List AVal)}:qak cs ((off,vs)::l)=qxt (decide (off + vs.length≤cs.length)) cs off vs l:=by
 simp only [qak,qxt,k9]
 cases decide (off + vs.length≤cs.length) <;> rfl
def elemsO (x:Option AVal) (i sz:Nat) (l:Option (List (Nat × AVal))):Option (List (Nat × AVal)):=match x with
 | some v=>elemsC (Nat.beq v.flat.length sz && v.flat.all qn) i v l
 | none=>none
where elemsC (b:Bool) (i:Nat) (v:AVal) (l:Option (List (Nat × AVal))):Option (List (Nat × AVal)):=match b,l with
 | true,some r=>some ((i,v)::r)
 | _,_=>none
@[go_sem] theorem q84 {v:AVal} {i sz:Nat} {l:Option (List (Nat × AVal))}:elemsO (some v) i sz l=elemsO.elemsC (Nat.beq v.flat.length sz && v.flat.all qn) i v l:=rfl
@[go_sem] theorem q8d {v:AVal} {i:Nat} {r:List (Nat × AVal)}:elemsO.elemsC true i v (some r)=some ((i,v)::r):=rfl
@[go_sem] theorem q5b {sz:Nat}:zu e sz []=some []:=rfl
@[go_sem] theorem q3f {sz i:Nat} {x:qp} {l:List (Nat × qp)}:zu e sz ((i,x)::l)=elemsO (qf e x) i sz (zu e sz l):=by
 simp only [zu,elemsO,elemsO.elemsC]
 cases qf e x with
 | none=>rfl
 | some v=>simp only []; cases (Nat.beq v.flat.length sz && v.flat.all qn) <;> cases zu e sz l <;> rfl
@[go_sem] theorem jgu {xs:List AVal}:qbv xs []=some xs:=rfl
def qsp (b:Bool) (xs:List AVal) (i:Nat) (v:AVal) (l:List (Nat × AVal)):Option (List AVal):=match b with
 | true=>qbv (xs.set i v) l
 | false=>none
@[go_sem] theorem q9i {xs:List AVal} {i:Nat} {v:AVal} {l:List (Nat × AVal)}:qsp true xs i v l=qbv (xs.set i v) l:=rfl
@[go_sem] theorem jdg {xs:List AVal} {i:Nat} {v:AVal} {l:List (Nat × AVal)}:qbv xs ((i,v)::l)=qsp (decide (i < xs.length)) xs i v l:=by
 simp only [qbv,qsp,qbu]
 cases decide (i < xs.length) <;> rfl
def sliceR (sz:Nat) (h:qh) (xs:List AVal) (ps:Option (List (Nat × AVal))):Option ORes:=match ps with
 | some ps=>sliceS sz h (qbv xs ps)
 | none=>none
where sliceS (sz:Nat) (h:qh) (r:Option (List AVal)):Option ORes:=match r with
 | some xs=>some ⟨.list false sz xs,true,none,h⟩
 | none=>none
@[go_sem] theorem q8e {sz:Nat} {xs:List AVal} {ps:List (Nat × AVal)}:sliceR sz h xs (some ps)=sliceR.sliceS sz h (qbv xs ps):=rfl
@[go_sem] theorem q9j {sz:Nat} {xs:List AVal}:sliceR.sliceS sz h (some xs)=some ⟨.list false sz xs,true,none,h⟩:=rfl
@[go_sem] theorem q7r {sz len:Nat} {zero:List AVal} {ps:List (Nat × qp)}:qc p xc h0 al e h (.buildSlice sz len zero ps)=sliceR sz h (List.replicate len (bif Nat.beq sz 1 then zero.headD .undef else .agg zero)) (zu e sz ps):=by
 simp only [qc,qo,sliceR,sliceR.sliceS]
 cases zu e sz ps with
 | none=>rfl
 | some ps=>simp only []; cases qbv (List.replicate len (bif Nat.beq sz 1 then zero.headD .undef else .agg zero)) ps <;> rfl
def appR (sz bytes:Nat) (h:qh) (own:Option Nat) (x y:Option AVal):Option ORes:=match x,y with
 | some (.list n sz' xs),some vy=>ifR (n || own.isSome) (appS sz bytes h own n sz' xs (z8 sz vy))
 | _,_=>none
where appS (sz bytes:Nat) (h:qh) (own:Option Nat) (n:Bool) (sz':Nat) (xs:List AVal) (ys:Option (List AVal)):Option ORes:=match ys with
 | some ys=>ifR ((Nat.beq sz sz' || (xs.isEmpty && n)) && Nat.ble (xs.length + ys.length) 1073741824 && Nat.ble bytes 4096 && Nat.blt 0 sz) (some ⟨qdl n sz xs ys,true,own,h⟩)
 | none=>none
@[go_sem] theorem jgq {sz bytes:Nat} {own:Option Nat} {n:Bool} {sz':Nat} {xs:List AVal} {vy:AVal}:appR sz bytes h own (some (.list n sz' xs)) (some vy)=ifR (n || own.isSome) (appR.appS sz bytes h own n sz' xs (z8 sz vy)):=rfl
@[go_sem] theorem jgd {sz bytes:Nat} {own:Option Nat} {n:Bool} {sz':Nat} {xs ys:List AVal}:appR.appS sz bytes h own n sz' xs (some ys)=ifR ((Nat.beq sz sz' || (xs.isEmpty && n)) && Nat.ble (xs.length + ys.length) 1073741824 && Nat.ble bytes 4096 && Nat.blt 0 sz) (some ⟨qdl n sz xs ys,true,own,h⟩):=rfl
@[go_sem] theorem jjj {sz bytes:Nat} {x y:qp}:qc p xc h0 al e h (.append none sz bytes x y)=appR sz bytes h (j4 e x) (qf e x) (qf e y):=by
 simp only [qc,qo,appR,appR.appS]
 cases qf e x with
 | none=>rfl
 | some vx=>
  cases vx with
  | list n sz' xs=>
   cases qf e y with
   | none=>rfl
   | some vy=>
    simp only [ifR]
    cases (n || (j4 e x).isSome) with
    | false=>rfl
    | true=>
     simp only [cond_true]
     cases z8 sz vy with
     | none=>rfl
     | some ys=>simp only []; cases ((Nat.beq sz sz' || (xs.isEmpty && n)) && Nat.ble (xs.length + ys.length) 1073741824 && Nat.ble bytes 4096 && Nat.blt 0 sz) <;> rfl
  | _=>cases qf e y <;> rfl
@[go_sem] theorem q57 {z:Nat} {f:α→AVal} {l:Option (List α)}:z8 z (sl z f l)=some ((l.getD []).map f):=by
 cases l <;> simp [z8,sl]
@[go_sem] theorem jiw {z:Nat} {b:Bool} {xs:List AVal}:z8 z (.list b z xs)=some xs:=by simp [z8]
@[go_sem] theorem jk3 {z z':Nat} {b:Bool}:z8 z (.list b z' [])=some []:=by simp [z8]
@[go_sem] theorem q86 {z:Nat} {xs ys:List AVal}:qdl false z xs ys=.list false z (xs++ys):=rfl
@[go_sem] theorem jds {z:Nat} {b:Bool} {xs:List AVal} {y:AVal} {ys:List AVal}:qdl b z xs (y::ys)=.list false z (xs++y::ys):=by cases b <;> rfl
attribute [go_sem] Option.isSome_some Option.isSome_none Bool.or_true Bool.true_or List.isEmpty_nil List.isEmpty_cons Bool.and_false Bool.false_and
def qmz (h:qh) (i:Nat) (x:Option AVal):Option ORes:=match x with
 | some (.tup vs)=>kq h vs[i]?
 | _=>none
@[go_sem] theorem q6a {i:Nat} {vs:List AVal}:qmz h i (some (.tup vs))=kq h vs[i]?:=rfl
@[go_sem] theorem jgx {i:Nat} {x:qp}:qc p xc h0 al e h (.extract x i)=qmz h i (qf e x):=by
 simp only [qc,qo,qmz]
 cases qf e x with
 | none=>rfl
 | some v=>cases v <;> rfl
def un1 (op:UnOp) (h:qh) (x:Option AVal):Option ORes:=match x with
 | some v=>kq h (qgn op v)
 | none=>none
@[go_sem] theorem jj4 {op:UnOp} {v:AVal}:un1 op h (some v)=kq h (qgn op v):=rfl
@[go_sem] theorem jmx {op:UnOp} {x:qp}:qc p xc h0 al e h (.un op x)=un1 op h (qf e x):=by
 simp only [qc,qo,un1]
 cases qf e x <;> rfl
@[go_sem] theorem jl4 {b:Bool}:qgn .not (.bool b)=some (.bool (!b)):=rfl
@[go_sem] theorem jlz {k:IntKind} {n:Int}:qgn .neg (.int k n)=some (.int k (qk k (0 - n))):=rfl
def q0l (neq:Bool) (h:qh) (x y:Option AVal):Option ORes:=match x,y with
 | some (.bool a),some (.bool b)=>val h (.bool (bif neq then !(a == b) else a == b))
 | _,_=>none
@[go_sem] theorem jfx {neq a b:Bool}:q0l neq h (some (.bool a)) (some (.bool b))=some ⟨.bool (bif neq then !(a == b) else a == b),false,none,h⟩:=rfl
@[go_sem] theorem jmn {neq:Bool} {x y:qp}:qc p xc h0 al e h (.beq neq x y)=q0l neq h (qf e x) (qf e y):=by
 simp only [qc,qo,q0l]
 cases qf e x with
 | none=>rfl
 | some v=>cases v <;> cases qf e y <;> rfl
def qpe (f:Fn) (h:qh) (a b:Option (List AVal)):Option ORes:=match a,b with
 | some a,some b=>val h (.fn f a b)
 | _,_=>none
@[go_sem] theorem q5w {f:Fn} {a b:List AVal}:qpe f h (some a) (some b)=some ⟨.fn f a b,false,none,h⟩:=rfl
@[go_sem] theorem jhr {f:Fn} {a b:List qp}:qc p xc h0 al e h (.mkfunc f a b)=qpe f h (ym e a) (ym e b):=by
 simp only [qc,qo,qpe]
 cases ym e a <;> cases ym e b <;> rfl
def mxR (f:AVal→AVal→Option AVal) (h:qh) (l:Option (List AVal)):Option ORes:=match l with
 | some (v::vs)=>kq h (qbw f v vs)
 | _=>none
@[go_sem] theorem jip {f:AVal→AVal→Option AVal} {v:AVal} {vs:List AVal}:mxR f h (some (v::vs))=kq h (qbw f v vs):=rfl
@[go_sem] theorem jmw {l:List qp}:qc p xc h0 al e h (.mx l)=mxR max2 h (ym e l):=by
 simp only [qc,qo,mxR]
 cases ym e l with
 | none=>rfl
 | some vs=>cases vs <;> rfl
@[go_sem] theorem jmy {l:List qp}:qc p xc h0 al e h (.mn l)=mxR min2 h (ym e l):=by
 simp only [qc,qo,mxR]
 cases ym e l with
 | none=>rfl
 | some vs=>cases vs <;> rfl
def qxj (f:AVal→AVal→Option AVal) (x:Option AVal) (l:List AVal):Option AVal:=match x with
 | some z=>qbw f z l
 | none=>none
@[go_sem] theorem jc0 {f:AVal→AVal→Option AVal} {x:AVal} {l:List AVal}:qxj f (some x) l=qbw f x l:=rfl
@[go_sem] theorem jgt {f:AVal→AVal→Option AVal} {x:AVal}:qbw f x []=some x:=rfl
@[go_sem] theorem jdb {f:AVal→AVal→Option AVal} {x y:AVal} {l:List AVal}:qbw f x (y::l)=qxj f (f x y) l:=by
 simp only [qbw,qxj]; rfl
@[go_sem] theorem jin {k:IntKind} {x y:Int}:max2 (.int k x) (.int k y)=some (.int k (max x y)):=by
 simp only [max2,decide_true,cond_true]
 congr 2
 by_cases h:y > x
 ·rw [if_pos h]; omega
 ·rw [if_neg h]; omega
@[go_sem] theorem jki {k:IntKind} {x y:Int}:min2 (.int k x) (.int k y)=some (.int k (min x y)):=by
 simp only [min2,decide_true,cond_true]
 congr 2
 by_cases h:y < x
 ·rw [if_pos h]; omega
 ·rw [if_neg h]; omega
def qzq (k:Nat) (neq:Bool) (h:qh) (x:Option AVal):Option ORes:=match k,x with
  | 0,some (.list n _ _)=>val h (.bool (bif neq then !n else n))
  | 0,some (.ms ..)=>val h (.bool neq)
  | 1,some .nilptr=>val h (.bool (!neq))
  | 1,some (.ptr ..)=>val h (.bool neq)
  | 1,some (.vptr ..)=>val h (.bool neq)
  | 2,some .nilmap=>val h (.bool (!neq))
  | 2,some (.map ..)=>val h (.bool neq)
  | 3,some .nilfn=>val h (.bool (!neq))
  | 3,some (.fn ..)=>val h (.bool neq)
  | _,_=>none
@[go_sem] theorem jk0 {k:Nat} {neq:Bool} {x:qp}:qc p xc h0 al e h (.nilEq k neq x)=qzq k neq h (qf e x):=rfl
@[go_sem] theorem jcl {neq n:Bool} {z:Nat} {xs:List AVal}:qzq 0 neq h (some (.list n z xs))=some ⟨.bool (bif neq then !n else n),false,none,h⟩:=rfl
@[go_sem] theorem jgp {n:Nat} {k:IntKind} {i:Int}:below n (.int k i)=true:=rfl
@[go_sem] theorem jbv {n:Nat} {b:Bool}:below n (.bool b)=true:=rfl
@[go_sem] theorem jgz {n:Nat} {s:List UInt8}:below n (.str s)=true:=rfl
@[go_sem] theorem jbf {n:Nat} {b:Bool} {z:Nat} {xs:List AVal}:below n (.list b z xs)=ju n xs:=by simp only [below]
@[go_sem] theorem jgr {n:Nat} {xs:List AVal}:below n (.agg xs)=ju n xs:=by simp only [below]
@[go_sem] theorem jgf {n:Nat} {xs:List AVal}:below n (.tup xs)=ju n xs:=by simp only [below]
@[go_sem] theorem jfm {n b o:Nat}:below n (.ptr b o)=decide (b < n):=by simp only [below,qbu]
@[go_sem] theorem jfg {n b:Nat}:below n (.map b)=decide (b < n):=by simp only [below,qbu]
@[go_sem] theorem jhp {n k:Nat} {a b:List AVal}:below n (.fn (.func k) a b)=(ju n a && ju n b):=by simp only [below]
@[go_sem] theorem jct {n:Nat}:ju n []=true:=by simp only [ju]
@[go_sem] theorem qt5 {n:Nat} {x:AVal} {xs:List AVal}:ju n (x::xs)=(below n x && ju n xs):=by simp only [ju]
@[go_sem] theorem jey {n:Nat} {i:Int}:below n (jr i)=true:=rfl
@[go_sem] theorem jbk {n z:Nat} {l:Option (List Int)}:below n (sl z jr l)=true:=qit fun _=>rfl
theorem qnv {n:Nat} {f:α→AVal} (hf:∀ x,below n (f x)=true):∀ l:List α,ju n (l.map f)=true
 | []=>rfl
 | x::l=>by rw [List.map_cons,qt5,hf,qnv hf l]; rfl
@[go_sem] theorem q89 {n:Nat} {l:List Int}:ju n (l.map jr)=true:=qnv (fun _=>rfl) l
@[go_sem] theorem jkx {k:IntKind} {i:Int}:ku h (.int k i)=some (.int k i):=rfl
@[go_sem] theorem jio {b:Bool}:ku h (.bool b)=some (.bool b):=rfl
@[go_sem] theorem jld {s:List UInt8}:ku h (.str s)=some (.str s):=rfl
@[go_sem] theorem jju {b:Bool} {z:Nat} {xs:List AVal}:ku h (.list b z xs)=some (.list b z xs):=rfl
@[go_sem] theorem q6j {z:Nat} {f:α→AVal} {l:Option (List α)}:ku h (sl z f l)=some (sl z f l):=by cases l <;> rfl
@[go_sem] theorem jkf:k8 h []=some []:=rfl
@[go_sem] theorem jfj {v:AVal} {vs:List AVal}:k8 h (v::vs)=qcu (ku h v) (k8 h vs):=by
 simp only [k8,qcu]
 cases ku h v with
 | none=>rfl
 | some x=>cases k8 h vs <;> rfl
def qxx (l:Option (List AVal)):Option AVal:=match l with
 | some xs=>some (.agg xs)
 | none=>none
@[go_sem] theorem jg4 {xs:List AVal}:qxx (some xs)=some (.agg xs):=rfl
@[go_sem] theorem jku {cs:List AVal}:freezeR h (.agg cs)=qxx (k8 h cs):=by
 simp only [freezeR,qxx]
 cases k8 h cs <;> rfl
@[go_sem] theorem jj3 {k:IntKind} {i:Int}:freezeR h (.int k i)=some (.int k i):=rfl
@[go_sem] theorem jgh {b:Bool}:freezeR h (.bool b)=some (.bool b):=rfl
@[go_sem] theorem jh8 {s:List UInt8}:freezeR h (.str s)=some (.str s):=rfl
@[go_sem] theorem jgm {b:Bool} {z:Nat} {xs:List AVal}:freezeR h (.list b z xs)=some (.list b z xs):=rfl
@[go_sem] theorem jk8 {z:Nat} {f:α→AVal} {l:Option (List α)}:freezeR h (sl z f l)=some (sl z f l):=by cases l <;> rfl
def q0g (l:Option (List AVal)):Option AVal:=match l with
 | some xs=>some (.tup xs)
 | none=>none
@[go_sem] theorem jge {xs:List AVal}:q0g (some xs)=some (.tup xs):=rfl
@[go_sem] theorem jjp {cs:List AVal}:freezeR h (.tup cs)=q0g (freezeR.freezeT h cs):=by
 simp only [freezeR,q0g]
 cases freezeR.freezeT h cs <;> rfl
@[go_sem] theorem jke:freezeR.freezeT h []=some []:=rfl
@[go_sem] theorem jil {cs vs:List AVal}:freezeR.freezeT h (.agg cs::vs)=qcu (qxx (k8 h cs)) (freezeR.freezeT h vs):=by
 rw [freezeR.freezeT]
 cases k8 h cs with
 | none=>rfl
 | some x=>cases freezeR.freezeT h vs <;> rfl
theorem qf3 {v:AVal} {vs:List AVal} (hv:v.isAgg=false):freezeR.freezeT h (v::vs)=qcu (ku h v) (freezeR.freezeT h vs):=by
 have:∀ cs,v ≠ .agg cs:=fun cs hc=>by rw [hc] at hv; cases hv
 rw [freezeR.freezeT]
 ·cases ku h v with
  | none=>rfl
  | some x=>cases freezeR.freezeT h vs <;> rfl
 ·exact this
@[go_sem] theorem jjq {k:IntKind} {i:Int} {vs:List AVal}:freezeR.freezeT h (.int k i::vs)=qcu (some (.int k i)) (freezeR.freezeT h vs):=qf3 rfl
@[go_sem] theorem jfv {b:Bool} {vs:List AVal}:freezeR.freezeT h (.bool b::vs)=qcu (some (.bool b)) (freezeR.freezeT h vs):=qf3 rfl
@[go_sem] theorem jhh {s:List UInt8} {vs:List AVal}:freezeR.freezeT h (.str s::vs)=qcu (some (.str s)) (freezeR.freezeT h vs):=qf3 rfl
@[go_sem] theorem jg8 {b:Bool} {z:Nat} {xs vs:List AVal}:freezeR.freezeT h (.list b z xs::vs)=qcu (some (.list b z xs)) (freezeR.freezeT h vs):=qf3 rfl
@[go_sem] theorem jli {z:Nat} {f:α→AVal} {l:Option (List α)} {vs:List AVal}:freezeR.freezeT h (sl z f l::vs)=qcu (some (sl z f l)) (freezeR.freezeT h vs):=by
 rw [qf3 (by cases l <;> rfl),q6j]
attribute [go_sem] List.contains_cons List.contains_nil
@[go_sem] theorem jlk {a b:Nat}:(a == b)=decide (a=b):=by
 by_cases hab:a=b <;> simp [hab]
def qnd (agg:Bool) (c:Option (AVal × Bool)) (vs:Option (List AVal)):Option (AVal × Bool):=match vs,agg with
 | some vs,true=>some (.agg vs,false)
 | some _,false=>c
 | none,_=>none
@[go_sem] theorem jfk {c:Option (AVal × Bool)} {vs:List AVal}:qnd true c (some vs)=some (.agg vs,false):=rfl
@[go_sem] theorem jhb {c:Option (AVal × Bool)} {vs:List AVal}:qnd false c (some vs)=c:=rfl
def qq7 (agg:Bool) (o n:Nat) (cs:Option (List (AVal × Bool))):Option (AVal × Bool):=match cs with
 | some cs=>qnd agg cs[o]? (yf cs o n)
 | none=>none
@[go_sem] theorem jc7 {agg:Bool} {o n:Nat} {cs:List (AVal × Bool)}:qq7 agg o n (some cs)=qnd agg cs[o]? (yf cs o n):=rfl
def qwq (agg:Bool) (n:Nat) (h:qh) (x:Option (AVal × Bool)):Option (AVal × Bool):=match x with
 | some (.ptr b o,_)=>qq7 agg o n (jq h b)
 | _=>none
@[go_sem] theorem jf2 {agg:Bool} {n b o:Nat} {w:Bool}:qwq agg n h (some (.ptr b o,w))=qq7 agg o n (jq h b):=rfl
@[go_sem] theorem q42 {t n:Nat} {agg:Bool}:qa5 ⟨e,h⟩ (.cell t agg n)=qwq agg n h (jf t e):=by
 simp only [qa5,qwq]
 cases jf t e with
 | none=>rfl
 | some x=>
  obtain ⟨v,w⟩:=x
  cases v with
  | ptr b o=>
   simp only [qq7]
   cases jq h b with
   | none=>rfl
   | some cs=>
    simp only [qnd]
    cases yf cs o n with
    | none=>rfl
    | some vs=>cases agg with
     | true=>rfl
     | false=>simp only [cond_false]; cases cs[o]? <;> rfl
  | _=>rfl
theorem jt {k:Nat} {args:List AVal} {v v':AVal} {o:Bool} (hp:p.prims k=none) (hc:jc p xc k args []=some (v,o,h)) (hz:freezeR h v=some v') (hv:below 0 v'=true):qd p xc k args=some (v',o && v.isList):=by
 unfold qd
 rw [hp]
 simp only [hc,hz,qcf,hv,cond_true]
end
end Go.Abs
