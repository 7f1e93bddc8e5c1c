/- Equations of the executor, second part. -/
import Derived.Test.YtfopaakmgogpiaaGreatDoorAbsI
set_option linter.unusedVariables false
set_option linter.unusedSimpArgs false
namespace Go.Abs
section
variable {p:jw} {xc:XC} {h0:Nat} {al:Option (List Nat)} {e:Env} {h:qf} {α:Type}
attribute [go_sem] List.getElem?_cons_zero List.getElem?_cons_succ List.getElem?_nil List.set_cons_zero List.set_cons_succ List.set_nil List.cons_append List.replicate_zero List.replicate_succ List.map_cons List.map_nil List.all_cons List.all_nil List.drop_zero List.drop_succ_cons List.take_zero List.take_succ_cons List.drop_nil List.take_nil Bool.and_true Bool.true_and Bool.or_false Bool.false_or Bool.and_self List.headD_cons List.foldl_cons List.foldl_nil List.flatMap_cons List.flatMap_nil
@[go_sem] theorem zhg {k:IntKind} {n:Int}:ql (.int k n)=true:=rfl
@[go_sem] theorem zgx {b:Bool}:ql (.bool b)=true:=rfl
@[go_sem] theorem zhw {s:List UInt8}:ql (.str s)=true:=rfl
@[go_sem] theorem zgu {b:Bool} {z:Nat} {xs:List AVal}:ql (.list b z xs)=true:=rfl
@[go_sem] theorem zig {b o n:Nat}:ql (.ms b o n)=true:=rfl
@[go_sem] theorem zhf {b o:Nat}:ql (.ptr b o)=true:=rfl
@[go_sem] theorem zha {b:Nat}:ql (.map b)=true:=rfl
@[go_sem] theorem j5i:ql .nilptr=true:=rfl
@[go_sem] theorem j7g:ql .nilmap=true:=rfl
@[go_sem] theorem zeu:ql .nilfn=true:=rfl
@[go_sem] theorem zh4 {f:Fn} {a b:List AVal}:ql (.fn f a b)=true:=rfl
@[go_sem] theorem zh1 {z:Nat} {f:α→AVal} {l:Option (List α)}:ql (sl z f l)=true:=by cases l <;> rfl
@[go_sem] theorem j8l {cs:List AVal}:AVal.flat (.agg cs)=cs:=rfl
@[go_sem] theorem ze1 {k:IntKind} {n:Int}:AVal.flat (.int k n)=[.int k n]:=rfl
@[go_sem] theorem j5o {b:Bool}:AVal.flat (.bool b)=[.bool b]:=rfl
@[go_sem] theorem j90 {s:List UInt8}:AVal.flat (.str s)=[.str s]:=rfl
@[go_sem] theorem j7e {b:Bool} {z:Nat} {xs:List AVal}:AVal.flat (.list b z xs)=[.list b z xs]:=rfl
@[go_sem] theorem zg2 {z:Nat} {f:α→AVal} {l:Option (List α)}:AVal.flat (sl z f l)=[sl z f l]:=by cases l <;> rfl
@[go_sem] theorem zfv {b o:Nat}:AVal.flat (.ptr b o)=[.ptr b o]:=rfl
@[go_sem] theorem zfc {b:Nat}:AVal.flat (.map b)=[.map b]:=rfl
@[go_sem] theorem zgw {f:Fn} {a b:List AVal}:AVal.flat (.fn f a b)=[.fn f a b]:=rfl
@[go_sem] theorem zgr {b o n:Nat}:AVal.flat (.ms b o n)=[.ms b o n]:=rfl
@[go_sem] theorem qsd {a b:Nat}:Nat.beq a b=decide (a=b):=by
 cases h:Nat.beq a b with
 | true=>have:=Nat.eq_of_beq_eq_true h; simp [this]
 | false=>
  have:a ≠ b:=fun hh=>by subst hh; simp at h
  simp [this]
@[go_sem] theorem qa1 {a b:Nat}:Nat.ble a b=decide (a≤b):=by
 cases h:Nat.ble a b with
 | true=>have:=Nat.le_of_ble_eq_true h; simp [this]
 | false=>
  have:¬ a≤b:=fun hh=>by rw [Nat.ble_eq_true_of_le hh] at h; cases h
  simp [this]
@[go_sem] theorem qdx {a b:Nat}:Nat.blt a b=decide (a < b):=by
 show Nat.ble (a + 1) b=_
 rw [qa1]; rfl
@[go_sem] theorem j62 {b:Nat}:j9 h0 none b=true:=rfl
@[go_sem] theorem zgo:exl []=false:=rfl
@[go_sem] theorem zau {k:Nat} {l:List Nat}:exl (k::l)=decide (1000≤k):=by simp only [exl,qa1]
@[go_sem] theorem zci {k b:Nat} {l:List Nat}:exq h0 (k::l) b=cond (decide (k < 2000)) (decide (b=k - 1000) && decide (b < h0)) (cond (decide (k < 4000)) (decide (b=h0 + (k - 2000))) (decide (b < h0))):=by
 have e:∀ x y:Nat,Nat.beq x y=decide (x=y):=fun x y=>by
  cases h:Nat.beq x y with
  | true=>rw [Nat.eq_of_beq_eq_true h]; simp
  | false=>
   have:x ≠ y:=fun e=>by rw [e,Nat.beq_refl] at h; cases h
   simp [this]
 simp only [exq,qdx,e]
@[go_sem] theorem jv0 {b:Nat} {l:List Nat}:j9 h0 (some l) b=cond (exl l) (exq h0 l b) (decide (b < h0) || l.contains (b - h0)):=by simp only [j9,qdx]
def qbo (r:Option qf) (v:AVal):Option ORes:=match r with
 | some h'=>some ⟨v,false,none,h'⟩
 | none=>none
@[go_sem] theorem j57 {v:AVal}:qbo (some h) v=some ⟨v,false,none,h⟩:=rfl
@[go_sem] theorem j56 {h0 r:Nat} {es:List (AVal × AVal)}:q8h h0 r h true (some es)=qbo (newBox h0 h r (.map es)) (.map (h0 + r)):=rfl
def jgr (n:Nat) (h:qf) (b:Option ABox) (x:ABox):Option qf:=match b with
 | some .hole=>some (h.set n x)
 | _=>none
@[go_sem] theorem j68 {n:Nat} {x:ABox}:jgr n h (some .hole) x=some (h.set n x):=rfl
@[go_sem] theorem j64 {r:Nat} {x:ABox}:newBox h0 h r x=jgr (h0 + r) h h[h0 + r]? x:=by
 unfold newBox jgr; rfl
def ifR (b:Bool) (r:Option ORes):Option ORes:=match b with
 | true=>r
 | false=>none
@[go_sem] theorem j8f {r:Option ORes}:ifR true r=r:=rfl
@[go_sem] theorem zgd {r:Nat} {z:List AVal}:qg p xc h0 al e h (.alloc r z)=ifR (z.all ql) (qbo (newBox h0 h r (.cells (cellsOf z))) (.ptr (h0 + r) 0)):=by
 simp only [qg,qr,ifR]
 cases z.all ql with
 | false=>rfl
 | true=>simp only [cond_true,qbo]; cases newBox h0 h r (.cells (cellsOf z)) <;> rfl
def q6d (n:Nat) (h:qf) (x:Option AVal):Option ORes:=match x with
 | some v=>ifR (Nat.beq v.flat.length n && v.flat.all ql) (some ⟨.vptr v,false,none,h⟩)
 | none=>none
@[go_sem] theorem j25 {n:Nat} {v:AVal}:q6d n h (some v)=ifR (Nat.beq v.flat.length n && v.flat.all ql) (some ⟨.vptr v,false,none,h⟩):=rfl
@[go_sem] theorem zhr {n:Nat} {x:qq}:qg p xc h0 al e h (.vbox n x)=q6d n h (qj e x):=by
 simp only [qg,qp,q6d]
 cases qj e x with
 | none=>rfl
 | some v=>
  simp only [ifR]
  cases (Nat.beq v.flat.length n && v.flat.all ql) <;> rfl
def jhm (h0 r n:Nat) (h:qf) (x:Option AVal):Option ORes:=match x with
 | some v=>ifR (Nat.beq v.flat.length n && v.flat.all ql) (qbo (newBox h0 h r (.cells (cellsOf v.flat))) (.ptr (h0 + r) 0))
 | none=>none
@[go_sem] theorem j6n {r n:Nat} {v:AVal}:jhm h0 r n h (some v)=ifR (Nat.beq v.flat.length n && v.flat.all ql) (qbo (newBox h0 h r (.cells (cellsOf v.flat))) (.ptr (h0 + r) 0)):=rfl
@[go_sem] theorem zh2 {r n:Nat} {x:qq}:qg p xc h0 al e h (.box r n x)=jhm h0 r n h (qj e x):=by
 simp only [qg,qr,jhm]
 cases qj e x with
 | none=>rfl
 | some v=>
  simp only [ifR,qbo]
  cases (Nat.beq v.flat.length n && v.flat.all ql) with
  | false=>rfl
  | true=>simp only [cond_true]; cases newBox h0 h r (.cells (cellsOf v.flat)) <;> rfl
@[go_sem] theorem zgq {r:Nat}:qg p xc h0 al e h (.mkmap r)=qbo (newBox h0 h r (.map [])) (.map (h0 + r)):=by
 simp only [qg,qr,qbo]
 cases newBox h0 h r (.map []) <;> rfl
@[go_sem] theorem jtf:cellsOf []=[]:=rfl
@[go_sem] theorem jrg {v:AVal} {vs:List AVal}:cellsOf (v::vs)=(v,false)::cellsOf vs:=rfl
def qhe (agg:Bool) (h:qf) (r:Option AVal):Option ORes:=match r with
 | some v=>bif Bool.xor agg v.isAgg then none else val h (.vptr v)
 | none=>none
def qew (agg:Bool) (off n:Nat) (h:qf) (x:Option AVal):Option ORes:=match x with
 | some (.ptr b o)=>val h (.ptr b (o + off))
 | some (.vptr (.agg cs))=>qhe agg h (part agg cs off n)
 | some (.vel b ver o)=>val h (.vel b ver (o + off))
 | _=>none
@[go_sem] theorem jl1 {agg:Bool} {off n b v o:Nat}:qew agg off n h (some (.vel b v o))=some ⟨.vel b v (o + off),false,none,h⟩:=rfl
@[go_sem] theorem jl7 {agg:Bool} {off n b o:Nat}:qew agg off n h (some (.ptr b o))=some ⟨.ptr b (o + off),false,none,h⟩:=rfl
@[go_sem] theorem jjh {agg:Bool} {off n:Nat} {cs:List AVal}:qew agg off n h (some (.vptr (.agg cs)))=qhe agg h (part agg cs off n):=rfl
@[go_sem] theorem jtb {agg:Bool} {off n:Nat} {x:qq}:qg p xc h0 al e h (.fieldAddr agg off n x)=qew agg off n h (qj e x):=by
 simp only [qg,qp,qew]
 cases qj e x with
 | none=>rfl
 | some v=>cases v with
  | vptr v=>cases v <;> rfl
  | _=>rfl
def zhx (v:AVal):Prop:=v.isAgg=false
theorem j5j {v:AVal} (hv:v.isAgg=false):qhe false h (some v)=some ⟨.vptr v,false,none,h⟩:=by simp [qhe,hv,val]
@[go_sem] theorem j61 {k:IntKind} {n:Int}:qhe false h (some (.int k n))=some ⟨.vptr (.int k n),false,none,h⟩:=rfl
@[go_sem] theorem j47 {s:List UInt8}:qhe false h (some (.str s))=some ⟨.vptr (.str s),false,none,h⟩:=rfl
@[go_sem] theorem ju7 {b:Bool}:qhe false h (some (.bool b))=some ⟨.vptr (.bool b),false,none,h⟩:=rfl
@[go_sem] theorem j72 {z:Nat} {f:α→AVal} {l:Option (List α)}:qhe false h (some (sl z f l))=some ⟨.vptr (sl z f l),false,none,h⟩:=by cases l <;> rfl
@[go_sem] theorem j6b {cs:List AVal}:qhe true h (some (.agg cs))=some ⟨.vptr (.agg cs),false,none,h⟩:=rfl
@[go_sem] theorem j9w {cs:List AVal} {off n:Nat}:part false cs off n=cs[off]?:=rfl
def q7z (b:Bool) (cs:List AVal) (off n:Nat):Option AVal:=match b with
 | true=>some (.agg ((cs.drop off).take n))
 | false=>none
@[go_sem] theorem jwt {cs:List AVal} {off n:Nat}:q7z true cs off n=some (.agg ((cs.drop off).take n)):=rfl
@[go_sem] theorem j78 {cs:List AVal} {off n:Nat}:part true cs off n=q7z (decide (off + n≤cs.length)) cs off n:=by
 simp only [part,q7z,cond_true,qa1]
 cases decide (off + n≤cs.length) <;> rfl
@[go_sem] theorem j8a {z:Nat} {f:α→AVal} {l:Option (List α)}:yr h0 al false 1 h (some (.vptr (sl z f l)))=some ⟨sl z f l,false,none,h⟩:=by cases l <;> rfl
def jgw (h:qf) (cs:List AVal) (b:Bool):Option ORes:=match b with
 | true=>some ⟨.agg cs,false,none,h⟩
 | false=>none
@[go_sem] theorem j6w {cs:List AVal}:jgw h cs true=some ⟨.agg cs,false,none,h⟩:=rfl
@[go_sem] theorem j2s {n:Nat} {cs:List AVal}:yr h0 al true n h (some (.vptr (.agg cs)))=jgw h cs (decide (cs.length=n)):=by
 unfold jgw
 by_cases hn:cs.length=n
 ·rw [ja9 hn]; simp [hn]
 ·simp [yr,AVal.isAgg,AVal.flat,hn,qsd]
def q0y (agg:Bool) (h:qf) (vs:Option (List AVal)):Option ORes:=match vs with
 | some vs=>bif agg then val h (.agg vs) else (match vs with
  | [v]=>val h v
  | _=>none)
 | none=>none
@[go_sem] theorem j8j {vs:List AVal}:q0y true h (some vs)=some ⟨.agg vs,false,none,h⟩:=rfl
@[go_sem] theorem zfj {v:AVal}:q0y false h (some [v])=some ⟨v,false,none,h⟩:=rfl
def q1m (b:Option ABox):Option (List (AVal × Bool)):=match b with
 | some (.cells cs)=>some cs
 | _=>none
@[go_sem] theorem jts {cs:List (AVal × Bool)}:q1m (some (.cells cs))=some cs:=rfl
@[go_sem] theorem q3s {b:Nat}:ju h b=q1m h[b]?:=by unfold ju q1m; rfl
def ldC (b:Bool) (cs:List (AVal × Bool)) (off n:Nat):Option (List AVal):=match b with
 | true=>some (((cs.drop off).take n).map (·.1))
 | false=>none
@[go_sem] theorem j82 {cs:List (AVal × Bool)} {off n:Nat}:ldC true cs off n=some (((cs.drop off).take n).map (·.1)):=rfl
@[go_sem] theorem js8 {cs:List (AVal × Bool)} {off n:Nat}:zh cs off n=ldC (decide (off + n≤cs.length)) cs off n:=by
 simp only [zh,ldC,qa1]
 cases decide (off + n≤cs.length) <;> rfl
def jhn (agg:Bool) (o n:Nat) (h:qf) (cs:Option (List (AVal × Bool))):Option ORes:=match cs with
 | some cs=>q0y agg h (zh cs o n)
 | none=>none
@[go_sem] theorem j69 {agg:Bool} {o n:Nat} {cs:List (AVal × Bool)}:jhn agg o n h (some cs)=q0y agg h (zh cs o n):=rfl
@[go_sem] theorem j52 {agg:Bool} {n b o:Nat}:yr h0 al agg n h (some (.ptr b o))=ifR (j9 h0 al b) (jhn agg o n h (ju h b)):=by
 simp only [yr,ifR,jhn,q0y]
 cases j9 h0 al b with
 | false=>rfl
 | true=>
  simp only [cond_true]
  cases ju h b with
  | none=>rfl
  | some cs=>simp only []; cases zh cs o n <;> rfl
def q0a (r:Option qf) (v:AVal) (w:Bool):Option ORes:=match r with
 | some h'=>some ⟨v,w,none,h'⟩
 | none=>none
@[go_sem] theorem jyy {v:AVal} {w:Bool}:q0a (some h) v w=some ⟨v,w,none,h⟩:=rfl
def qzy (h:qf) (b o:Nat) (cs:List (AVal × Bool)) (x:Option (AVal × Bool)):Option ORes:=match x with
 | some (v,w)=>q0a (jt h b (.cells (cs.set o (v,false)))) v w
 | none=>none
@[go_sem] theorem jum {b o:Nat} {cs:List (AVal × Bool)} {v:AVal} {w:Bool}:qzy h b o cs (some (v,w))=q0a (jt h b (.cells (cs.set o (v,false)))) v w:=rfl
def q0d (h:qf) (b o:Nat) (cs:Option (List (AVal × Bool))):Option ORes:=match cs with
 | some cs=>qzy h b o cs cs[o]?
 | none=>none
@[go_sem] theorem j1b {b o:Nat} {cs:List (AVal × Bool)}:q0d h b o (some cs)=qzy h b o cs cs[o]?:=rfl
def qpc (h0:Nat) (al:Option (List Nat)) (off:Option Nat) (h:qf) (x:Option AVal):Option ORes:=match x with
 | some (.ptr b o)=>ifR (j9 h0 al b && qhc off o) (q0d h b o (ju h b))
 | _=>none
@[go_sem] theorem jlx {off:Option Nat} {b o:Nat}:qpc h0 al off h (some (.ptr b o))=ifR (j9 h0 al b && qhc off o) (q0d h b o (ju h b)):=rfl
@[go_sem] theorem jvv {o:Nat}:qhc none o=true:=rfl
@[go_sem] theorem j4c {a o:Nat}:qhc (some a) o=decide (a=o):=by simp only [qhc,qsd]
@[go_sem] theorem j0u {off:Option Nat} {x:qq}:qg p xc h0 al e h (.loadTake off x)=qpc h0 al off h (qj e x):=by
 simp only [qg,qr,qpc]
 cases qj e x with
 | none=>rfl
 | some v=>cases v with
  | ptr b o=>
   simp only [ifR,q0d,qzy,q0a]
   cases (j9 h0 al b && qhc off o) with
   | false=>rfl
   | true=>
    simp only [cond_true]
    cases ju h b with
    | none=>rfl
    | some cs=>
     simp only []
     cases cs[o]? with
     | none=>rfl
     | some c=>
      obtain ⟨v,w⟩:=c
      simp only []
      cases jt h b (.cells (cs.set o (v,false))) <;> rfl
  | _=>rfl
def jhj (b:Bool) (n:Nat) (x:ABox) (h:qf):Option qf:=match b with
 | true=>some (h.set n x)
 | false=>none
@[go_sem] theorem j5h {n:Nat} {x:ABox}:jhj true n x h=some (h.set n x):=rfl
@[go_sem] theorem j6t {b:Nat} {x:ABox}:jt h b x=jhj (decide (b < h.length)) b x h:=by
 simp only [jt,jhj,qdx]
 cases decide (b < h.length) <;> rfl
def stC (b:Bool) (cs:List (AVal × Bool)) (off:Nat) (vs:List AVal):Option (List (AVal × Bool)):=match b with
 | true=>some (cs.take off++vs.map (·,false)++cs.drop (off + vs.length))
 | false=>none
@[go_sem] theorem j7r {cs:List (AVal × Bool)} {off:Nat} {vs:List AVal}:stC true cs off vs=some (cs.take off++vs.map (·,false)++cs.drop (off + vs.length)):=rfl
@[go_sem] theorem jly {cs:List (AVal × Bool)} {off:Nat} {vs:List AVal}:jq cs off vs=stC (decide (off + vs.length≤cs.length) && vs.all ql) cs off vs:=by
 simp only [jq,stC,qa1]
 cases (decide (off + vs.length≤cs.length) && vs.all ql) <;> rfl
def zil (e:Env) (x:qq):Option Nat:=zm e x
def q7m (t:Nat) (x:Option (AVal × Bool)):Option Nat:=match x with
 | some (_,true)=>some t
 | _=>none
@[go_sem] theorem j6y {t:Nat} {v:AVal}:q7m t (some (v,true))=some t:=rfl
@[go_sem] theorem jzb {t:Nat} {v:AVal}:q7m t (some (v,false))=none:=rfl
@[go_sem] theorem j6e {t:Nat}:zm e (.tmp t)=q7m t (jm t e):=by
 simp only [zm,q7m]; rfl
@[go_sem] theorem jtx {v:AVal}:zm e (.const v)=none:=rfl
def qrw (h:qf) (b:Nat) (cs:Option (List (AVal × Bool))):Option ORes:=match cs with
 | some cs'=>qbo (jt h b (.cells cs')) .undef
 | none=>none
@[go_sem] theorem jp9 {b:Nat} {cs:List (AVal × Bool)}:qrw h b (some cs)=qbo (jt h b (.cells cs)) .undef:=rfl
def qz0 (t:Nat) (r:Option qf):Option ORes:=match r with
 | some h'=>some ⟨.undef,false,some t,h'⟩
 | none=>none
@[go_sem] theorem ju0 {t:Nat}:qz0 t (some h)=some ⟨.undef,false,some t,h⟩:=rfl
def qqp (n:Nat) (h:qf) (b o:Nat) (v:AVal) (own:Option Nat) (cs:Option (List (AVal × Bool))):Option ORes:=match cs,own with
 | some cs,some t=>ifR (Nat.beq n 1 && v.isList && Nat.blt o cs.length) (qz0 t (jt h b (.cells (cs.set o (v,true)))))
 | some cs,none=>ifR (Nat.beq v.flat.length n) (qrw h b (jq cs o v.flat))
 | none,_=>none
@[go_sem] theorem jxi {n b o t:Nat} {v:AVal} {cs:List (AVal × Bool)}:qqp n h b o v (some t) (some cs)=ifR (Nat.beq n 1 && v.isList && Nat.blt o cs.length) (qz0 t (jt h b (.cells (cs.set o (v,true))))):=rfl
@[go_sem] theorem jqz {n b o:Nat} {v:AVal} {cs:List (AVal × Bool)}:qqp n h b o v none (some cs)=ifR (Nat.beq v.flat.length n) (qrw h b (jq cs o v.flat)):=rfl
def q2v (h0:Nat) (al:Option (List Nat)) (n:Nat) (h:qf) (own:Option Nat) (a x:Option AVal):Option ORes:=match a,x with
 | some (.ptr b o),some v=>ifR (j9 h0 al b) (qqp n h b o v own (ju h b))
 | _,_=>none
@[go_sem] theorem jwo {n b o:Nat} {own:Option Nat} {v:AVal}:q2v h0 al n h own (some (.ptr b o)) (some v)=ifR (j9 h0 al b) (qqp n h b o v own (ju h b)):=rfl
@[go_sem] theorem zg5 {n:Nat} {a x:qq}:qg p xc h0 al e h (.store n a x)=q2v h0 al n h (zm e x) (qj e a) (qj e x):=by
 simp only [qg,qr,q2v]
 cases qj e a with
 | none=>rfl
 | some va=>
  cases va with
  | ptr b o=>
   cases qj e x with
   | none=>rfl
   | some v=>
    simp only [ifR]
    cases j9 h0 al b with
    | false=>rfl
    | true=>
     simp only [cond_true]
     cases ju h b with
     | none=>rfl
     | some cs=>
      simp only [qqp]
      cases zm e x with
      | none=>
       simp only [ifR,qrw,qbo]
       cases Nat.beq v.flat.length n with
       | false=>rfl
       | true=>
        simp only [cond_true]
        cases jq cs o v.flat with
        | none=>rfl
        | some cs'=>simp only []; cases jt h b (.cells cs') <;> rfl
      | some t=>
       simp only [ifR,qz0]
       cases (Nat.beq n 1 && v.isList && Nat.blt o cs.length) with
       | false=>rfl
       | true=>simp only [cond_true]; cases jt h b (.cells (cs.set o (v,true))) <;> rfl
  | _=>rfl
@[go_sem] theorem jtj {b:Bool} {z:Nat} {xs:List AVal}:AVal.isList (.list b z xs)=true:=rfl
@[go_sem] theorem j50 {z:Nat} {f:α→AVal} {l:Option (List α)}:AVal.isList (sl z f l)=true:=by cases l <;> rfl
def qvt (b:Bool) (off:Nat) (vs:List AVal) (l:Option (List (Nat × List AVal))):Option (List (Nat × List AVal)):=match b,l with
 | true,some r=>some ((off,vs)::r)
 | _,_=>none
@[go_sem] theorem jtk {off:Nat} {vs:List AVal} {r:List (Nat × List AVal)}:qvt true off vs (some r)=some ((off,vs)::r):=rfl
def q0f (x:Option AVal) (off n:Nat) (l:Option (List (Nat × List AVal))):Option (List (Nat × List AVal)):=match x with
 | some v=>qvt (Nat.beq v.flat.length n && v.flat.all ql) off v.flat l
 | none=>none
@[go_sem] theorem jt5 {v:AVal} {off n:Nat} {l:Option (List (Nat × List AVal))}:q0f (some v) off n l=qvt (Nat.beq v.flat.length n && v.flat.all ql) off v.flat l:=rfl
@[go_sem] theorem jlw:y9 e []=some []:=rfl
@[go_sem] theorem ji7 {off n:Nat} {x:qq} {l:List (Nat × Nat × qq)}:y9 e ((off,n,x)::l)=q0f (qj e x) off n (y9 e l):=by
 simp only [y9,q0f,qvt]
 cases qj e x with
 | none=>rfl
 | some v=>simp only []; cases (Nat.beq v.flat.length n && v.flat.all ql) <;> cases y9 e l <;> rfl
def fillR (h:qf) (zero:List AVal) (ps:Option (List (Nat × List AVal))):Option ORes:=match ps with
 | some ps=>fillS h (qbj zero ps)
 | none=>none
where fillS (h:qf) (r:Option (List AVal)):Option ORes:=match r with
 | some cs=>some ⟨.agg cs,false,none,h⟩
 | none=>none
@[go_sem] theorem jvd {zero:List AVal} {ps:List (Nat × List AVal)}:fillR h zero (some ps)=fillR.fillS h (qbj zero ps):=rfl
@[go_sem] theorem ju9 {cs:List AVal}:fillR.fillS h (some cs)=some ⟨.agg cs,false,none,h⟩:=rfl
@[go_sem] theorem zgz {zero:List AVal} {ps:List (Nat × Nat × qq)}:qg p xc h0 al e h (.build zero ps)=fillR h zero (y9 e ps):=by
 simp only [qg,qp,fillR,fillR.fillS]
 cases y9 e ps with
 | none=>rfl
 | some ps=>simp only []; cases qbj zero ps <;> rfl
@[go_sem] theorem j7b {cs:List AVal}:qbj cs []=some cs:=rfl
def q5v (b:Bool) (cs:List AVal) (off:Nat) (vs:List AVal) (l:List (Nat × List AVal)):Option (List AVal):=match b with
 | true=>qbj (cs.take off++vs++cs.drop (off + vs.length)) l
 | false=>none
@[go_sem] theorem jxs {cs:List AVal} {off:Nat} {vs:List AVal} {l:List (Nat × List AVal)}:q5v true cs off vs l=qbj (cs.take off++vs++cs.drop (off + vs.length)) l:=rfl
@[go_sem] theorem j41 {cs:List AVal} {off:Nat} {vs:List AVal} {l:List (Nat × List AVal)}:qbj cs ((off,vs)::l)=q5v (decide (off + vs.length≤cs.length)) cs off vs l:=by
 simp only [qbj,q5v,qa1]
 cases decide (off + vs.length≤cs.length) <;> rfl
def elemsO (x:Option AVal) (i sz:Nat) (l:Option (List (Nat × AVal))):Option (List (Nat × AVal)):=match x with
 | some v=>elemsC (Nat.beq v.flat.length sz && v.flat.all ql) i v l
 | none=>none
where elemsC (b:Bool) (i:Nat) (v:AVal) (l:Option (List (Nat × AVal))):Option (List (Nat × AVal)):=match b,l with
 | true,some r=>some ((i,v)::r)
 | _,_=>none
@[go_sem] theorem jtd {v:AVal} {i sz:Nat} {l:Option (List (Nat × AVal))}:elemsO (some v) i sz l=elemsO.elemsC (Nat.beq v.flat.length sz && v.flat.all ql) i v l:=rfl
@[go_sem] theorem juf {v:AVal} {i:Nat} {r:List (Nat × AVal)}:elemsO.elemsC true i v (some r)=some ((i,v)::r):=rfl
@[go_sem] theorem jlv {sz:Nat}:yc e sz []=some []:=rfl
@[go_sem] theorem jkg {sz i:Nat} {x:qq} {l:List (Nat × qq)}:yc e sz ((i,x)::l)=elemsO (qj e x) i sz (yc e sz l):=by
 simp only [yc,elemsO,elemsO.elemsC]
 cases qj e x with
 | none=>rfl
 | some v=>simp only []; cases (Nat.beq v.flat.length sz && v.flat.all ql) <;> cases yc e sz l <;> rfl
@[go_sem] theorem j7h {xs:List AVal}:qcj xs []=some xs:=rfl
def q3i (b:Bool) (xs:List AVal) (i:Nat) (v:AVal) (l:List (Nat × AVal)):Option (List AVal):=match b with
 | true=>qcj (xs.set i v) l
 | false=>none
@[go_sem] theorem juc {xs:List AVal} {i:Nat} {v:AVal} {l:List (Nat × AVal)}:q3i true xs i v l=qcj (xs.set i v) l:=rfl
@[go_sem] theorem j38 {xs:List AVal} {i:Nat} {v:AVal} {l:List (Nat × AVal)}:qcj xs ((i,v)::l)=q3i (decide (i < xs.length)) xs i v l:=by
 simp only [qcj,q3i,qdx]
 cases decide (i < xs.length) <;> rfl
def sliceR (sz:Nat) (h:qf) (xs:List AVal) (ps:Option (List (Nat × AVal))):Option ORes:=match ps with
 | some ps=>sliceS sz h (qcj xs ps)
 | none=>none
where sliceS (sz:Nat) (h:qf) (r:Option (List AVal)):Option ORes:=match r with
 | some xs=>some ⟨.list false sz xs,true,none,h⟩
 | none=>none
@[go_sem] theorem jtg {sz:Nat} {xs:List AVal} {ps:List (Nat × AVal)}:sliceR sz h xs (some ps)=sliceR.sliceS sz h (qcj xs ps):=rfl
@[go_sem] theorem jty {sz:Nat} {xs:List AVal}:sliceR.sliceS sz h (some xs)=some ⟨.list false sz xs,true,none,h⟩:=rfl
@[go_sem] theorem jrp {sz len:Nat} {zero:List AVal} {ps:List (Nat × qq)}:qg p xc h0 al e h (.buildSlice sz len zero ps)=sliceR sz h (List.replicate len (bif Nat.beq sz 1 then zero.headD .undef else .agg zero)) (yc e sz ps):=by
 simp only [qg,qp,sliceR,sliceR.sliceS]
 cases yc e sz ps with
 | none=>rfl
 | some ps=>simp only []; cases qcj (List.replicate len (bif Nat.beq sz 1 then zero.headD .undef else .agg zero)) ps <;> rfl
def appR (sz bytes:Nat) (h:qf) (own:Option Nat) (x y:Option AVal):Option ORes:=match x,y with
 | some (.list n sz' xs),some vy=>ifR (n || own.isSome) (appS sz bytes h own n sz' xs (zp sz vy))
 | _,_=>none
where appS (sz bytes:Nat) (h:qf) (own:Option Nat) (n:Bool) (sz':Nat) (xs:List AVal) (ys:Option (List AVal)):Option ORes:=match ys with
 | some ys=>ifR ((Nat.beq sz sz' || (xs.isEmpty && n)) && Nat.ble (xs.length + ys.length) 1073741824 && Nat.ble bytes 4096 && Nat.blt 0 sz) (some ⟨qf3 n sz xs ys,true,own,h⟩)
 | none=>none
@[go_sem] theorem j6j {sz bytes:Nat} {own:Option Nat} {n:Bool} {sz':Nat} {xs:List AVal} {vy:AVal}:appR sz bytes h own (some (.list n sz' xs)) (some vy)=ifR (n || own.isSome) (appR.appS sz bytes h own n sz' xs (zp sz vy)):=rfl
@[go_sem] theorem j6u {sz bytes:Nat} {own:Option Nat} {n:Bool} {sz':Nat} {xs ys:List AVal}:appR.appS sz bytes h own n sz' xs (some ys)=ifR ((Nat.beq sz sz' || (xs.isEmpty && n)) && Nat.ble (xs.length + ys.length) 1073741824 && Nat.ble bytes 4096 && Nat.blt 0 sz) (some ⟨qf3 n sz xs ys,true,own,h⟩):=rfl
@[go_sem] theorem zfr {sz bytes:Nat} {x y:qq}:qg p xc h0 al e h (.append none sz bytes x y)=appR sz bytes h (zm e x) (qj e x) (qj e y):=by
 simp only [qg,qp,appR,appR.appS]
 cases qj e x with
 | none=>rfl
 | some vx=>
  cases vx with
  | list n sz' xs=>
   cases qj e y with
   | none=>rfl
   | some vy=>
    simp only [ifR]
    cases (n || (zm e x).isSome) with
    | false=>rfl
    | true=>
     simp only [cond_true]
     cases zp sz vy with
     | none=>rfl
     | some ys=>simp only []; cases ((Nat.beq sz sz' || (xs.isEmpty && n)) && Nat.ble (xs.length + ys.length) 1073741824 && Nat.ble bytes 4096 && Nat.blt 0 sz) <;> rfl
  | _=>cases qj e y <;> rfl
@[go_sem] theorem q16 {z:Nat} {f:α→AVal} {l:Option (List α)}:zp z (sl z f l)=some ((l.getD []).map f):=by
 cases l <;> simp [zp,sl]
@[go_sem] theorem ze6 {z:Nat} {b:Bool} {xs:List AVal}:zp z (.list b z xs)=some xs:=by simp [zp]
@[go_sem] theorem zgt {z z':Nat} {b:Bool}:zp z (.list b z' [])=some []:=by simp [zp]
@[go_sem] theorem jti {z:Nat} {xs ys:List AVal}:qf3 false z xs ys=.list false z (xs++ys):=rfl
@[go_sem] theorem jx8 {z:Nat} {b:Bool} {xs:List AVal} {y:AVal} {ys:List AVal}:qf3 b z xs (y::ys)=.list false z (xs++y::ys):=by cases b <;> rfl
attribute [go_sem] Option.isSome_some Option.isSome_none Bool.or_true Bool.true_or List.isEmpty_nil List.isEmpty_cons Bool.and_false Bool.false_and
def qtr (h:qf) (i:Nat) (x:Option AVal):Option ORes:=match x with
 | some (.tup vs)=>qa5 h vs[i]?
 | _=>none
@[go_sem] theorem jow {i:Nat} {vs:List AVal}:qtr h i (some (.tup vs))=qa5 h vs[i]?:=rfl
@[go_sem] theorem j6z {i:Nat} {x:qq}:qg p xc h0 al e h (.extract x i)=qtr h i (qj e x):=by
 simp only [qg,qp,qtr]
 cases qj e x with
 | none=>rfl
 | some v=>cases v <;> rfl
def un1 (op:UnOp) (h:qf) (x:Option AVal):Option ORes:=match x with
 | some v=>qa5 h (qkn op v)
 | none=>none
@[go_sem] theorem zdg {op:UnOp} {v:AVal}:un1 op h (some v)=qa5 h (qkn op v):=rfl
@[go_sem] theorem zim {op:UnOp} {x:qq}:qg p xc h0 al e h (.un op x)=un1 op h (qj e x):=by
 simp only [qg,qp,un1]
 cases qj e x <;> rfl
@[go_sem] theorem zhu {b:Bool}:qkn .not (.bool b)=some (.bool (!b)):=rfl
@[go_sem] theorem zhk {k:IntKind} {n:Int}:qkn .neg (.int k n)=some (.int k (qe k (0 - n))):=rfl
def jex (neq:Bool) (h:qf) (x y:Option AVal):Option ORes:=match x,y with
 | some (.bool a),some (.bool b)=>val h (.bool (bif neq then !(a == b) else a == b))
 | _,_=>none
@[go_sem] theorem j63 {neq a b:Bool}:jex neq h (some (.bool a)) (some (.bool b))=some ⟨.bool (bif neq then !(a == b) else a == b),false,none,h⟩:=rfl
@[go_sem] theorem zh7 {neq:Bool} {x y:qq}:qg p xc h0 al e h (.beq neq x y)=jex neq h (qj e x) (qj e y):=by
 simp only [qg,qp,jex]
 cases qj e x with
 | none=>rfl
 | some v=>cases v <;> cases qj e y <;> rfl
def qyl (f:Fn) (h:qf) (a b:Option (List AVal)):Option ORes:=match a,b with
 | some a,some b=>val h (.fn f a b)
 | _,_=>none
@[go_sem] theorem jmv {f:Fn} {a b:List AVal}:qyl f h (some a) (some b)=some ⟨.fn f a b,false,none,h⟩:=rfl
@[go_sem] theorem zcq {f:Fn} {a b:List qq}:qg p xc h0 al e h (.mkfunc f a b)=qyl f h (kl e a) (kl e b):=by
 simp only [qg,qp,qyl]
 cases kl e a <;> cases kl e b <;> rfl
def mxR (f:AVal→AVal→Option AVal) (h:qf) (l:Option (List AVal)):Option ORes:=match l with
 | some (v::vs)=>qa5 h (qd2 f v vs)
 | _=>none
@[go_sem] theorem ze5 {f:AVal→AVal→Option AVal} {v:AVal} {vs:List AVal}:mxR f h (some (v::vs))=qa5 h (qd2 f v vs):=rfl
@[go_sem] theorem zij {l:List qq}:qg p xc h0 al e h (.mx l)=mxR max2 h (kl e l):=by
 simp only [qg,qp,mxR]
 cases kl e l with
 | none=>rfl
 | some vs=>cases vs <;> rfl
@[go_sem] theorem zin {l:List qq}:qg p xc h0 al e h (.mn l)=mxR min2 h (kl e l):=by
 simp only [qg,qp,mxR]
 cases kl e l with
 | none=>rfl
 | some vs=>cases vs <;> rfl
def q8v (f:AVal→AVal→Option AVal) (x:Option AVal) (l:List AVal):Option AVal:=match x with
 | some z=>qd2 f z l
 | none=>none
@[go_sem] theorem j0q {f:AVal→AVal→Option AVal} {x:AVal} {l:List AVal}:q8v f (some x) l=qd2 f x l:=rfl
@[go_sem] theorem j44 {f:AVal→AVal→Option AVal} {x:AVal}:qd2 f x []=some x:=rfl
@[go_sem] theorem j3a {f:AVal→AVal→Option AVal} {x y:AVal} {l:List AVal}:qd2 f x (y::l)=q8v f (f x y) l:=by
 simp only [qd2,q8v]; rfl
@[go_sem] theorem j88 {k:IntKind} {x y:Int}:max2 (.int k x) (.int k y)=some (.int k (max x y)):=by
 simp only [max2,decide_true,cond_true]
 congr 2
 by_cases h:y > x
 ·rw [if_pos h]; omega
 ·rw [if_neg h]; omega
@[go_sem] theorem j93 {k:IntKind} {x y:Int}:min2 (.int k x) (.int k y)=some (.int k (min x y)):=by
 simp only [min2,decide_true,cond_true]
 congr 2
 by_cases h:y < x
 ·rw [if_pos h]; omega
 ·rw [if_neg h]; omega
def q3b (k:Nat) (neq:Bool) (h:qf) (x:Option AVal):Option ORes:=match k,x with
  | 0,some (.list n _ _)=>val h (.bool (bif neq then !n else n))
  | 0,some (.ms ..)=>val h (.bool neq)
  | 1,some .nilptr=>val h (.bool (!neq))
  | 1,some (.ptr ..)=>val h (.bool neq)
  | 1,some (.vptr ..)=>val h (.bool neq)
  | 2,some .nilmap=>val h (.bool (!neq))
  | 2,some (.map ..)=>val h (.bool neq)
  | 3,some .nilfn=>val h (.bool (!neq))
  | 3,some (.fn ..)=>val h (.bool neq)
  | _,_=>none
@[go_sem] theorem zgl {k:Nat} {neq:Bool} {x:qq}:qg p xc h0 al e h (.nilEq k neq x)=q3b k neq h (qj e x):=rfl
@[go_sem] theorem jwq {neq n:Bool} {z:Nat} {xs:List AVal}:q3b 0 neq h (some (.list n z xs))=some ⟨.bool (bif neq then !n else n),false,none,h⟩:=rfl
@[go_sem] theorem j59 {n:Nat} {k:IntKind} {i:Int}:below n (.int k i)=true:=rfl
@[go_sem] theorem j1q {n:Nat} {b:Bool}:below n (.bool b)=true:=rfl
@[go_sem] theorem j55 {n:Nat} {s:List UInt8}:below n (.str s)=true:=rfl
@[go_sem] theorem j4d {n:Nat} {b:Bool} {z:Nat} {xs:List AVal}:below n (.list b z xs)=ja n xs:=by simp only [below]
@[go_sem] theorem j7a {n:Nat} {xs:List AVal}:below n (.agg xs)=ja n xs:=by simp only [below]
@[go_sem] theorem j6p {n:Nat} {xs:List AVal}:below n (.tup xs)=ja n xs:=by simp only [below]
@[go_sem] theorem j5u {n b o:Nat}:below n (.ptr b o)=decide (b < n):=by simp only [below,qdx]
@[go_sem] theorem j6o {n b:Nat}:below n (.map b)=decide (b < n):=by simp only [below,qdx]
@[go_sem] theorem j94 {n k:Nat} {a b:List AVal}:below n (.fn (.func k) a b)=(ja n a && ja n b):=by simp only [below]
@[go_sem] theorem j1w {n:Nat}:ja n []=true:=by simp only [ja]
@[go_sem] theorem q4p {n:Nat} {x:AVal} {xs:List AVal}:ja n (x::xs)=(below n x && ja n xs):=by simp only [ja]
@[go_sem] theorem jxf {n:Nat} {i:Int}:below n (zw i)=true:=rfl
@[go_sem] theorem j2t {n z:Nat} {l:Option (List Int)}:below n (sl z zw l)=true:=qcn fun _=>rfl
theorem quc {n:Nat} {f:α→AVal} (hf:∀ x,below n (f x)=true):∀ l:List α,ja n (l.map f)=true
 | []=>rfl
 | x::l=>by rw [List.map_cons,q4p,hf,quc hf l]; rfl
@[go_sem] theorem jtp {n:Nat} {l:List Int}:ja n (l.map zw)=true:=quc (fun _=>rfl) l
@[go_sem] theorem zg0 {k:IntKind} {i:Int}:kf h (.int k i)=some (.int k i):=rfl
@[go_sem] theorem zap {b:Bool}:kf h (.bool b)=some (.bool b):=rfl
@[go_sem] theorem zge {s:List UInt8}:kf h (.str s)=some (.str s):=rfl
@[go_sem] theorem za7 {b:Bool} {z:Nat} {xs:List AVal}:kf h (.list b z xs)=some (.list b z xs):=rfl
@[go_sem] theorem job {z:Nat} {f:α→AVal} {l:Option (List α)}:kf h (sl z f l)=some (sl z f l):=by cases l <;> rfl
@[go_sem] theorem zd0:qao h []=some []:=rfl
@[go_sem] theorem j6s {v:AVal} {vs:List AVal}:qao h (v::vs)=qfg (kf h v) (qao h vs):=by
 simp only [qao,qfg]
 cases kf h v with
 | none=>rfl
 | some x=>cases qao h vs <;> rfl
def q6t (l:Option (List AVal)):Option AVal:=match l with
 | some xs=>some (.agg xs)
 | none=>none
@[go_sem] theorem j58 {xs:List AVal}:q6t (some xs)=some (.agg xs):=rfl
@[go_sem] theorem qts {cs:List AVal}:freezeR h (.agg cs)=q6t (qao h cs):=by
 simp only [freezeR,q6t]
 cases qao h cs <;> rfl
@[go_sem] theorem zer {k:IntKind} {i:Int}:freezeR h (.int k i)=some (.int k i):=rfl
@[go_sem] theorem j42 {b:Bool}:freezeR h (.bool b)=some (.bool b):=rfl
@[go_sem] theorem zaq {s:List UInt8}:freezeR h (.str s)=some (.str s):=rfl
@[go_sem] theorem j53 {b:Bool} {z:Nat} {xs:List AVal}:freezeR h (.list b z xs)=some (.list b z xs):=rfl
@[go_sem] theorem zgi {z:Nat} {f:α→AVal} {l:Option (List α)}:freezeR h (sl z f l)=some (sl z f l):=by cases l <;> rfl
def jcw (l:Option (List AVal)):Option AVal:=match l with
 | some xs=>some (.tup xs)
 | none=>none
@[go_sem] theorem j5c {xs:List AVal}:jcw (some xs)=some (.tup xs):=rfl
@[go_sem] theorem zde {cs:List AVal}:freezeR h (.tup cs)=jcw (freezeR.freezeT h cs):=by
 simp only [freezeR,jcw]
 cases freezeR.freezeT h cs <;> rfl
@[go_sem] theorem zdj:freezeR.freezeT h []=some []:=rfl
@[go_sem] theorem zbt {cs vs:List AVal}:freezeR.freezeT h (.agg cs::vs)=qfg (q6t (qao h cs)) (freezeR.freezeT h vs):=by
 rw [freezeR.freezeT]
 cases qao h cs with
 | none=>rfl
 | some x=>cases freezeR.freezeT h vs <;> rfl
theorem qi2 {v:AVal} {vs:List AVal} (hv:v.isAgg=false):freezeR.freezeT h (v::vs)=qfg (kf h v) (freezeR.freezeT h vs):=by
 have:∀ cs,v ≠ .agg cs:=fun cs hc=>by rw [hc] at hv; cases hv
 rw [freezeR.freezeT]
 ·cases kf h v with
  | none=>rfl
  | some x=>cases freezeR.freezeT h vs <;> rfl
 ·exact this
@[go_sem] theorem j7z {k:IntKind} {i:Int} {vs:List AVal}:freezeR.freezeT h (.int k i::vs)=qfg (some (.int k i)) (freezeR.freezeT h vs):=qi2 rfl
@[go_sem] theorem j66 {b:Bool} {vs:List AVal}:freezeR.freezeT h (.bool b::vs)=qfg (some (.bool b)) (freezeR.freezeT h vs):=qi2 rfl
@[go_sem] theorem zcz {s:List UInt8} {vs:List AVal}:freezeR.freezeT h (.str s::vs)=qfg (some (.str s)) (freezeR.freezeT h vs):=qi2 rfl
@[go_sem] theorem j51 {b:Bool} {z:Nat} {xs vs:List AVal}:freezeR.freezeT h (.list b z xs::vs)=qfg (some (.list b z xs)) (freezeR.freezeT h vs):=qi2 rfl
@[go_sem] theorem zgm {z:Nat} {f:α→AVal} {l:Option (List α)} {vs:List AVal}:freezeR.freezeT h (sl z f l::vs)=qfg (some (sl z f l)) (freezeR.freezeT h vs):=by
 rw [qi2 (by cases l <;> rfl),job]
attribute [go_sem] List.contains_cons List.contains_nil
@[go_sem] theorem zgn {a b:Nat}:(a == b)=decide (a=b):=by
 by_cases hab:a=b <;> simp [hab]
def qvu (agg:Bool) (c:Option (AVal × Bool)) (vs:Option (List AVal)):Option (AVal × Bool):=match vs,agg with
 | some vs,true=>some (.agg vs,false)
 | some _,false=>c
 | none,_=>none
@[go_sem] theorem j6x {c:Option (AVal × Bool)} {vs:List AVal}:qvu true c (some vs)=some (.agg vs,false):=rfl
@[go_sem] theorem j6r {c:Option (AVal × Bool)} {vs:List AVal}:qvu false c (some vs)=c:=rfl
def qz7 (agg:Bool) (o n:Nat) (cs:Option (List (AVal × Bool))):Option (AVal × Bool):=match cs with
 | some cs=>qvu agg cs[o]? (zh cs o n)
 | none=>none
@[go_sem] theorem j0m {agg:Bool} {o n:Nat} {cs:List (AVal × Bool)}:qz7 agg o n (some cs)=qvu agg cs[o]? (zh cs o n):=rfl
def q5p (agg:Bool) (n:Nat) (h:qf) (x:Option (AVal × Bool)):Option (AVal × Bool):=match x with
 | some (.ptr b o,_)=>qz7 agg o n (ju h b)
 | _=>none
@[go_sem] theorem j5g {agg:Bool} {n b o:Nat} {w:Bool}:q5p agg n h (some (.ptr b o,w))=qz7 agg o n (ju h b):=rfl
@[go_sem] theorem jl4 {t n:Nat} {agg:Bool}:qcm ⟨e,h⟩ (.cell t agg n)=q5p agg n h (jm t e):=by
 simp only [qcm,q5p]
 cases jm t e with
 | none=>rfl
 | some x=>
  obtain ⟨v,w⟩:=x
  cases v with
  | ptr b o=>
   simp only [qz7]
   cases ju h b with
   | none=>rfl
   | some cs=>
    simp only [qvu]
    cases zh cs o n with
    | none=>rfl
    | some vs=>cases agg with
     | true=>rfl
     | false=>simp only [cond_false]; cases cs[o]? <;> rfl
  | _=>rfl
theorem zu {k:Nat} {args:List AVal} {v v':AVal} {o:Bool} (hp:p.prims k=none) (hc:qn p xc k args []=some (v,o,h)) (hz:freezeR h v=some v') (hv:below 0 v'=true):qc p xc k args=some (v',o && v.isList):=by
 unfold qc
 rw [hp]
 simp only [hc,hz,qcx,hv,cond_true]
end
end Go.Abs
