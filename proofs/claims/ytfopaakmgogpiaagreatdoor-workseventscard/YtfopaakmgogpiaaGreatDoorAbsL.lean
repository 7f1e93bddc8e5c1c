/- Equations of the executor, third part. -/
import Derived.Test.YtfopaakmgogpiaaGreatDoorAbsJ
import Derived.Test.YtfopaakmgogpiaaGreatDoorAbsD
set_option linter.unusedVariables false
set_option linter.unusedSimpArgs false
namespace Go.Abs
section
variable {p:jw} {xc:XC} {h0:Nat} {al:Option (List Nat)} {e:Env} {h:qf} {α:Type}
def qyb {α γ δ:Type} (g:Nat→γ→α→γ ⊕ δ):Nat→γ→List α→γ ⊕ δ
 | _,s,[]=>.inl s
 | i,s,x::l=>match g i s x with
  | .inl s'=>qyb g (i + 1) s' l
  | .inr d=>.inr d
def jsb {γ δ:Type} (En:γ→jd × ASt) (Ex:δ→jd × ASt):γ ⊕ δ→jd × ASt
 | .inl s=>En s
 | .inr d=>Ex d
@[simp] theorem zb2 {γ δ:Type} {En:γ→jd × ASt} {Ex:δ→jd × ASt} {s:γ}:jsb En Ex (.inl s)=En s:=rfl
@[simp] theorem j9e {γ δ:Type} {En:γ→jd × ASt} {Ex:δ→jd × ASt} {s:δ}:jsb En Ex (.inr s)=Ex s:=rfl
theorem q9i {c:ACode} {n:Nat} {r:jd × ASt} (hr:r.1 ≠ .normal):qsc p c n (some r)=some r:=by
 obtain ⟨x,st⟩:=r
 cases x with
 | normal=>exact absurd rfl hr
 | ret=>rfl
 | exit id=>rfl
theorem ji2 {n:Nat} {st:ASt} {h':qf} (hn:n=h.length) (hs:st.heap=h++h') (h1:qam n st.env=true) (h2:zn n h=true):gc n st=⟨st.env,h⟩:=by
 obtain ⟨ev,hp⟩:=st
 simp only at hs h1
 subst hs hn
 unfold gc
 cases h' with
 | nil=>simp
 | cons b h'=>
  have hle:Nat.ble (h++b::h').length h.length=false:=by
   rw [qa1]; simp
  simp only [hle,cond_false,List.take_left',h1,h2,Bool.and_self,cond_true]
def qgr (h:qf) (x i:Option AVal):Option ORes:=match x,i with
 | some (.str s),some j=>(match idx s.length j with
   | some j=>(match s[j]? with
    | some c=>val h (.int .u8 c.toNat)
    | none=>none)
   | none=>none)
 | _,_=>none
@[go_sem] theorem jyi {x i:qq}:qg p xc h0 al e h (.strIndex x i)=qgr h (qj e x) (qj e i):=by
 simp only [qg,qp,qgr]
 cases qj e x with
 | none=>rfl
 | some v=>cases v with
  | str s=>cases qj e i <;> rfl
  | _=>cases qj e i <;> rfl
theorem ja8 {s:List UInt8} {k:IntKind} {i:Nat} {c:UInt8} (hc:s[i]?=some c):qgr h (some (.str s)) (some (.int k (i:Int)))=some ⟨.int .u8 c.toNat,false,none,h⟩:=by
 have hl:i < s.length:=(List.getElem?_eq_some_iff.1 hc).1
 have:idx s.length (.int k (i:Int))=some i:=by rw [qfr,qtd hl]
 simp only [qgr,this,hc,val]
@[go_sem] theorem zg7 {a b:List UInt8}:ym .eql (.str a) (.str b)=some (.bool (decide (a=b))):=by
 by_cases hab:a=b <;> simp [ym,qq1,hab]
@[go_sem] theorem zgf {a b:List UInt8}:ym .neq (.str a) (.str b)=some (.bool (!decide (a=b))):=by
 by_cases hab:a=b <;> simp [ym,qq1,hab]
def qxl (h0 r:Nat) (h:qf) (x:Option AVal):Option ORes:=match x with
 | some (.str s)=>qbo (newBox h0 h r (.iter s 0)) (.ptr (h0 + r) 0)
 | _=>none
@[go_sem] theorem jug {r:Nat} {s:List UInt8}:qxl h0 r h (some (.str s))=qbo (newBox h0 h r (.iter s 0)) (.ptr (h0 + r) 0):=rfl
@[go_sem] theorem j8b {r:Nat} {x:qq}:qg p xc h0 al e h (.srange r x)=qxl h0 r h (qj e x):=by
 simp only [qg,qr,qxl]
 cases qj e x with
 | none=>rfl
 | some v=>cases v with
  | str s=>simp only [qbo]; cases newBox h0 h r (.iter s 0) <;> rfl
  | _=>rfl
def qhg (h:qf) (b:Nat) (x:Option ABox):Option ORes:=match x with
 | some (.iter s pos)=>bif Nat.blt pos s.length then qbo (jt h b (.iter s (pos + (qo s pos).2))) (.tup [.bool true,.int .i64 pos,.int .i32 (qo s pos).1]) else val h (.tup [.bool false])
 | _=>none
theorem jdj {b pos:Nat} {s:List UInt8} (hp:pos < s.length):qhg h b (some (.iter s pos))=qbo (jt h b (.iter s (pos + (qo s pos).2))) (.tup [.bool true,.int .i64 pos,.int .i32 (qo s pos).1]):=by
 simp only [qhg,qdx,hp,decide_true,cond_true]
theorem q9e {b pos:Nat} {s:List UInt8} (hp:¬ pos < s.length):qhg h b (some (.iter s pos))=some ⟨.tup [.bool false],false,none,h⟩:=by
 simp only [qhg,qdx,hp,decide_false,cond_false,val]
def q3o (h0:Nat) (al:Option (List Nat)) (h:qf) (x:Option AVal):Option ORes:=match x with
 | some (.ptr b 0)=>ifR (j9 h0 al b) (qhg h b h[b]?)
 | _=>none
@[go_sem] theorem jvj {b:Nat}:q3o h0 al h (some (.ptr b 0))=ifR (j9 h0 al b) (qhg h b h[b]?):=rfl
@[go_sem] theorem zgy {x:qq}:qg p xc h0 al e h (.snext x)=q3o h0 al h (qj e x):=by
 simp only [qg,qr,q3o]
 cases qj e x with
 | none=>rfl
 | some v=>cases v with
  | ptr b o=>
   cases o with
   | succ o=>rfl
   | zero=>
    simp only [ifR,ze,qhg,qbo]
    cases j9 h0 al b with
    | false=>rfl
    | true=>
     simp only [cond_true]
     cases h[b]? with
     | none=>rfl
     | some x=>cases x with
      | iter s pos=>
       simp only []
       cases Nat.blt pos s.length with
       | false=>rfl
       | true=>simp only [cond_true]; cases jt h b (.iter s (pos + (qo s pos).2)) <;> rfl
      | _=>rfl
  | _=>rfl
theorem jbe {s:List UInt8} {i:Nat} {c:UInt8} (hc:s[i]?=some c) (hl:c.toNat < 128):qo s i=(c.toNat,1):=by
 have hg:(ByteArray.get! ⟨⟨s⟩⟩ (i + 0))=c:=by
  obtain ⟨h1,h2⟩:=List.getElem?_eq_some_iff.1 hc
  simp [ByteArray.get!,h1,h2]
 simp only [qo,Utf8.decode,hg,hl,if_true]
theorem q9m {s:List UInt8} {i:Nat} {c:UInt8} (hc:s[i]?=some c) (hl:¬ c.toNat < 128):128≤(qo s i).1:=by
 have hg:(ByteArray.get! ⟨⟨s⟩⟩ (i + 0))=c:=by
  obtain ⟨h1,h2⟩:=List.getElem?_eq_some_iff.1 hc
  simp [ByteArray.get!,h1,h2]
 simp only [qo,Utf8.decode,hg,hl,if_false,Utf8.runeError]
 split
 ·split <;> simp <;> omega
 ·split
  ·split
   ·next hh=>simp only [Bool.and_eq_true,decide_eq_true_eq] at hh; simp only; omega
   ·decide
  ·split
   ·split
    ·next hh=>simp only [Bool.and_eq_true,decide_eq_true_eq] at hh; simp only; omega
    ·decide
   ·decide
def qil (h:qf) (zero:AVal) (r:Option (Option (Nat × AVal))):Option ORes:=match r with
 | some (some (_,v))=>val h v
 | some none=>val h zero
 | none=>none
@[go_sem] theorem jut {z v:AVal} {i:Nat}:qil h z (some (some (i,v)))=some ⟨v,false,none,h⟩:=rfl
@[go_sem] theorem j1u {z:AVal}:qil h z (some none)=some ⟨z,false,none,h⟩:=rfl
def qz3 (h:qf) (kd:Kd) (z kv:AVal) (x:Option ABox):Option ORes:=match x with
 | some (.map es)=>qil h z (zc kd kv es 0)
 | _=>none
@[go_sem] theorem j65 {kd:Kd} {z kv:AVal} {es:List (AVal × AVal)}:qz3 h kd z kv (some (.map es))=qil h z (zc kd kv es 0):=rfl
def qya (h0:Nat) (al:Option (List Nat)) (h:qf) (kd:Kd) (z:AVal) (m k:Option AVal):Option ORes:=match m,k with
 | some (.map b),some kv=>ifR (j9 h0 al b) (qz3 h kd z kv h[b]?)
 | some .nilmap,some _=>val h z
 | _,_=>none
@[go_sem] theorem jt3 {kd:Kd} {z kv:AVal} {b:Nat}:qya h0 al h kd z (some (.map b)) (some kv)=ifR (j9 h0 al b) (qz3 h kd z kv h[b]?):=rfl
@[go_sem] theorem j7v {kd:Kd} {z:AVal} {m k:qq}:qg p xc h0 al e h (.lookup kd z false m k)=qya h0 al h kd z (qj e m) (qj e k):=by
 simp only [qg,yg,qya]
 cases qj e m with
 | none=>cases qj e k <;> rfl
 | some v=>cases qj e k with
  | none=>cases v <;> rfl
  | some kv=>cases v with
   | map b=>
    simp only [ifR,ze,qz3,qil]
    cases j9 h0 al b with
    | false=>rfl
    | true=>
     simp only [cond_true]
     cases h[b]? with
     | none=>rfl
     | some x=>cases x with
      | map es=>
       simp only []
       cases zc kd kv es 0 with
       | none=>rfl
       | some r=>cases r <;> rfl
      | _=>rfl
   | _=>rfl
def qxn (h:qf) (b:Nat) (es:List (AVal × AVal)) (kv v:AVal) (r:Option (Option (Nat × AVal))):Option ORes:=match r with
 | some (some (i,_))=>qbo (jt h b (.map (qb1 es i v))) .undef
 | some none=>ifR (Nat.ble es.length 1073741824) (qbo (jt h b (.map (es++[(kv,v)]))) .undef)
 | none=>none
@[go_sem] theorem j6a {b:Nat} {es:List (AVal × AVal)} {kv v:AVal}:qxn h b es kv v (some none)=ifR (Nat.ble es.length 1073741824) (qbo (jt h b (.map (es++[(kv,v)]))) .undef):=rfl
def q68 (h:qf) (b:Nat) (kd:Kd) (kv v:AVal) (x:Option ABox):Option ORes:=match x with
 | some (.map es)=>qxn h b es kv v (zc kd kv es 0)
 | _=>none
@[go_sem] theorem zen {b:Nat} {kd:Kd} {kv v:AVal} {es:List (AVal × AVal)}:q68 h b kd kv v (some (.map es))=qxn h b es kv v (zc kd kv es 0):=rfl
def jfn (h0:Nat) (al:Option (List Nat)) (h:qf) (kd:Kd) (m k x:Option AVal):Option ORes:=match m,k,x with
 | some (.map b),some kv,some v=>ifR (j9 h0 al b) (q68 h b kd kv v h[b]?)
 | _,_,_=>none
@[go_sem] theorem zdi {b:Nat} {kd:Kd} {kv v:AVal}:jfn h0 al h kd (some (.map b)) (some kv) (some v)=ifR (j9 h0 al b) (q68 h b kd kv v h[b]?):=rfl
@[go_sem] theorem jub {kd:Kd} {m k x:qq}:qg p xc h0 al e h (.mapUpdate kd m k x)=jfn h0 al h kd (qj e m) (qj e k) (qj e x):=by
 simp only [qg,qr,jfn]
 cases qj e m with
 | none=>cases qj e k <;> cases qj e x <;> rfl
 | some v=>cases qj e k with
  | none=>cases v <;> cases qj e x <;> rfl
  | some kv=>cases qj e x with
   | none=>cases v <;> rfl
   | some xv=>cases v with
    | map b=>
     simp only [ifR,ze,q68,qxn,qbo]
     cases j9 h0 al b with
     | false=>rfl
     | true=>
      simp only [cond_true]
      cases h[b]? with
      | none=>rfl
      | some x=>cases x with
       | map es=>
        simp only []
        cases zc kd kv es 0 with
        | none=>rfl
        | some r=>cases r with
         | none=>
          simp only []
          cases Nat.ble es.length 1073741824 with
          | false=>rfl
          | true=>simp only [cond_true]; cases jt h b (.map (es++[(kv,xv)])) <;> rfl
         | some r=>simp only []; cases jt h b (.map (qb1 es r.1 xv)) <;> rfl
       | _=>rfl
    | _=>rfl
def jaa (agg:Bool) (len sz:Nat) (h:qf) (x i:Option AVal):Option ORes:=match x,i with
  | some (.ptr b o),some j=>(match idx len j with
   | some j=>val h (.ptr b (o + j * sz))
   | none=>none)
  | some (.vptr (.agg cs)),some j=>(match idx len j with
   | some j=>(match part agg cs (j * sz) sz with
    | some v=>bif Bool.xor agg v.isAgg then none else val h (.vptr v)
    | none=>none)
   | none=>none)
  | _,_=>none
@[go_sem] theorem j0r {agg:Bool} {len sz:Nat} {x i:qq}:qg p xc h0 al e h (.indexArr agg len sz x i)=jaa agg len sz h (qj e x) (qj e i):=rfl
end
section
variable {p:jw} {xc:XC} {h0:Nat} {al:Option (List Nat)} {e:Env} {h:qf} {α:Type}
@[go_sem] theorem jmj {n s v:Nat} {xs:List AVal}:qbn n (.vec s v xs)=true:=rfl
@[go_sem] theorem qv5 {n b v k:Nat}:below n (.vref b v k)=decide (b < n):=by
 simp only [below]
 cases hb:Nat.blt b n with
 | true=>simp [Nat.blt_eq.mp hb]
 | false=>
  have:¬ b < n:=fun h=>by rw [Nat.blt_eq.mpr h] at hb; cases hb
  simp [this]
def za (f:α→AVal) (l:List α):List AVal:=(l.map f).flatMap AVal.flat
theorem j5s {f:α→AVal}:za f []=[]:=rfl
theorem qbu {f:α→AVal} {x:α} {l:List α}:za f (x::l)=(f x).flat++za f l:=rfl
theorem q01 {f:α→AVal} {l m:List α}:za f (l++m)=za f l++za f m:=by simp [za]
theorem qeo {f:α→AVal} {sz:Nat} (hf:∀ x,(f x).flat.length=sz) (l:List α):(za f l).length=l.length * sz:=by
 induction l with
 | nil=>simp [za]
 | cons x l ih=>rw [qbu,List.length_append,hf,ih,List.length_cons,Nat.succ_mul]; omega
theorem qt4 {f:α→AVal} {sz:Nat} (hf:∀ x,(f x).flat.length=sz):∀ {l:List α} {i:Nat},(za f l).drop (i * sz)=za f (l.drop i)
 | [],i=>by simp [za]
 | x::l,0=>by simp
 | x::l,i + 1=>by
  rw [qbu,List.drop_succ_cons,← qt4 hf,show (i + 1) * sz=(f x).flat.length + i * sz by rw [hf,Nat.succ_mul]; omega,List.drop_append]
  simp
theorem q8e {f:α→AVal} {sz:Nat} (hf:∀ x,(f x).flat.length=sz):∀ {l:List α} {i:Nat},(za f l).take (i * sz)=za f (l.take i)
 | [],i=>by simp [za]
 | x::l,0=>by simp [za]
 | x::l,i + 1=>by
  rw [qbu,List.take_succ_cons,qbu,← q8e hf,show (i + 1) * sz=(f x).flat.length + i * sz by rw [hf,Nat.succ_mul]; omega,List.take_append]
  congr 1
  ·exact List.take_of_length_le (by omega)
  ·congr 1; omega
theorem jd3 {f:α→AVal} {sz i:Nat} {l:List α} {x:α} (hf:∀ x,(f x).flat.length=sz) (hx:l[i]?=some x):(za f l).drop (i * sz)=(f x).flat++za f (l.drop (i + 1)):=by
 rw [qt4 hf]
 have hlt:=(List.getElem?_eq_some_iff.1 hx).1
 rw [List.drop_eq_getElem_cons hlt,qbu,(List.getElem?_eq_some_iff.1 hx).2]
theorem qez {f:α→AVal} {sz i o n:Nat} {l:List α} {x:α} (hf:∀ x,(f x).flat.length=sz) (hx:l[i]?=some x) (ho:o + n≤sz):((za f l).drop (i * sz + o)).take n=((f x).flat.drop o).take n∧i * sz + o + n≤(za f l).length:=by
 have hlt:=(List.getElem?_eq_some_iff.1 hx).1
 refine ⟨?_,?_⟩
 ·rw [← List.drop_drop,jd3 hf hx,List.drop_append,List.take_append]
  have h1:(f x).flat.length=sz:=hf x
  have h2:n - ((f x).flat.drop o).length=0:=by rw [List.length_drop]; omega
  rw [h2,List.take_zero,List.append_nil]
 ·rw [qeo hf]
  have:(i + 1) * sz≤l.length * sz:=Nat.mul_le_mul_right _ hlt
  rw [Nat.succ_mul] at this
  omega
theorem qyx {f:α→AVal} {sz i o:Nat} {l:List α} {x y:α} {us:List AVal} (hf:∀ x,(f x).flat.length=sz) (hx:l[i]?=some x) (ho:o + us.length≤sz) (hy:(f y).flat=(f x).flat.take o++us++(f x).flat.drop (o + us.length)):
  (za f l).take (i * sz + o)++us++(za f l).drop (i * sz + o + us.length)=za f (l.set i y):=by
 have hlt:=(List.getElem?_eq_some_iff.1 hx).1
 have hsplit:l=l.take i++x::l.drop (i + 1):=by
  conv=>lhs; rw [← List.take_append_drop i l,List.drop_eq_getElem_cons hlt,(List.getElem?_eq_some_iff.1 hx).2]
 have hset:l.set i y=l.take i++y::l.drop (i + 1):=by rw [List.set_eq_take_append_cons_drop,if_pos hlt]
 have hl:(za f (l.take i)).length=i * sz:=by rw [qeo hf,List.length_take,Nat.min_eq_left (by omega)]
 have h1:(f x).flat.length=sz:=hf x
 rw [hset]
 conv=>lhs; rw [hsplit]
 simp only [q01,qbu]
 rw [hy,List.take_append,List.drop_append,hl]
 have e1:(za f (l.take i)).take (i * sz + o)=za f (l.take i):=List.take_of_length_le (by omega)
 have e2:(za f (l.take i)).drop (i * sz + o + us.length)=[]:=List.drop_eq_nil_of_le (by omega)
 rw [e1,e2,List.nil_append,show i * sz + o - i * sz=o by omega,show i * sz + o + us.length - i * sz=o + us.length by omega,List.take_append,List.drop_append]
 have e3:o - (f x).flat.length=0:=by omega
 have e4:o + us.length - (f x).flat.length=0:=by omega
 rw [e3,e4,List.take_zero,List.drop_zero,List.append_nil]
 simp [List.append_assoc]
def rcl (f:α→AVal) (l:List α):List (AVal × Bool):=cellsOf (za f l)
theorem zy {vs:List AVal}:(cellsOf vs).map (·.1)=vs:=by
 induction vs with
 | nil=>rfl
 | cons v vs ih=>simp only [cellsOf,List.map_cons] at ih ⊢; rw [ih]
theorem jux {f:α→AVal} {sz:Nat} (hf:∀ x,(f x).flat.length=sz) (l:List α):(rcl f l).length=l.length * sz:=by simp [rcl,cellsOf,qeo hf]
theorem qe4 {f:α→AVal} {sz i o n:Nat} {l:List α} {x:α} (hf:∀ x,(f x).flat.length=sz) (hx:l[i]?=some x) (ho:o + n≤sz):zh (rcl f l) (i * sz + o) n=some (((f x).flat.drop o).take n):=by
 obtain ⟨h1,h2⟩:=qez hf hx ho
 unfold zh
 have:(rcl f l).length=(za f l).length:=by simp [rcl,cellsOf]
 rw [this,Nat.ble_eq_true_of_le h2]
 simp only [cond_true,Option.some.injEq]
 rw [← h1]
 simp only [rcl,List.map_take,List.map_drop,zy]
theorem zg3 {f:α→AVal} {sz i:Nat} {l:List α} {x:α} (hf:∀ x,(f x).flat.length=sz) (hx:l[i]?=some x):zh (rcl f l) (i * sz) sz=some (f x).flat:=by
 have:=qe4 (o:=0) (n:=sz) hf hx (by omega)
 rw [Nat.add_zero,List.drop_zero,List.take_of_length_le (by rw [hf]; exact Nat.le_refl _)] at this
 exact this
theorem qbr {f:α→AVal} {sz i o:Nat} {l:List α} {x y:α} {us:List AVal} (hf:∀ x,(f x).flat.length=sz) (hx:l[i]?=some x) (ho:o + us.length≤sz) (hs:us.all ql=true) (hy:(f y).flat=(f x).flat.take o++us++(f x).flat.drop (o + us.length)):
  jq (rcl f l) (i * sz + o) us=some (rcl f (l.set i y)):=by
 obtain ⟨_,h2⟩:=qez hf hx ho
 unfold jq
 have:(rcl f l).length=(za f l).length:=by simp [rcl,cellsOf]
 rw [this,Nat.ble_eq_true_of_le h2,hs]
 simp only [Bool.and_self,cond_true,Option.some.injEq]
 rw [show rcl f (l.set i y)=cellsOf (za f (l.set i y)) from rfl,← qyx hf hx ho hy]
 simp [rcl,cellsOf,List.map_append,List.map_take,List.map_drop]
theorem q3y {f:α→AVal} {sz i o:Nat} {l:List α} {x y:α} {u:AVal} (hf:∀ x,(f x).flat.length=sz) (hx:l[i]?=some x) (ho:o < sz) (hy:(f y).flat=(f x).flat.set o u):(rcl f l).set (i * sz + o) (u,false)=rcl f (l.set i y):=by
 have hl:(f x).flat.length=sz:=hf x
 have h2:=(qez (n:=1) (o:=o) hf hx (by omega)).2
 have:=qyx (us:=[u]) (y:=y) (o:=o) hf hx (by simp; omega) (by rw [hy,List.set_eq_take_append_cons_drop,if_pos (show o < (f x).flat.length by omega)]; simp)
 rw [show rcl f (l.set i y)=cellsOf (za f (l.set i y)) from rfl,← this]
 simp only [rcl,cellsOf,List.length_cons,List.length_nil]
 rw [List.set_eq_take_append_cons_drop,if_pos (by simp; omega)]
 simp [List.map_append,List.map_take,List.map_drop]
theorem j0a {f:α→AVal} {sz i o n b v:Nat} {l:List α} {x:α} (hf:∀ x,(f x).flat.length=sz) (hb:h[b]?=some (.vec sz v (l.map f))) (hal:qe3 h0 al b=true) (hx:l[i]?=some x) (ho:o + n≤sz):
  yr h0 al true n h (some (.vel b v (i * sz + o)))=some ⟨.agg (((f x).flat.drop o).take n),false,none,h⟩:=by
 obtain ⟨h1,h2⟩:=qez hf hx ho
 have hg:ze h b=some (.vec sz v (l.map f)):=hb
 show (bif qe3 h0 al b then (match ze h b with
   | some (.vec _ ver' xs)=>bif Nat.beq v ver' && Nat.ble (i * sz + o + n) (xs.flatMap AVal.flat).length then (bif true then val h (.agg (((xs.flatMap AVal.flat).drop (i * sz + o)).take n)) else (match ((xs.flatMap AVal.flat).drop (i * sz + o)).take n with
     | [v]=>val h v
     | _=>none)) else none
   | _=>none) else none)=_
 rw [hal,hg]
 simp only [cond_true,Nat.beq_refl,Bool.true_and]
 have h3:Nat.ble (i * sz + o + n) ((l.map f).flatMap AVal.flat).length=true:=Nat.ble_eq_true_of_le h2
 rw [h3]
 simp only [cond_true,val]
 have h4:(((l.map f).flatMap AVal.flat).drop (i * sz + o)).take n=((f x).flat.drop o).take n:=h1
 rw [h4]
theorem qv0 {f:α→AVal} {sz i b v:Nat} {l:List α} {x:α} (hf:∀ x,(f x).flat.length=sz) (hb:h[b]?=some (.vec sz v (l.map f))) (hal:qe3 h0 al b=true) (hx:l[i]?=some x):
  yr h0 al true sz h (some (.vel b v (i * sz)))=some ⟨.agg (f x).flat,false,none,h⟩:=by
 have:=j0a (al:=al) (h0:=h0) (o:=0) (n:=sz) hf hb hal hx (by omega)
 rw [Nat.add_zero,List.drop_zero,List.take_of_length_le (by rw [hf]; exact Nat.le_refl _)] at this
 exact this
theorem q0u {f:α→AVal} {sz i o b v:Nat} {l:List α} {x:α} {u:AVal} (hf:∀ x,(f x).flat.length=sz) (hb:h[b]?=some (.vec sz v (l.map f))) (hal:qe3 h0 al b=true) (hx:l[i]?=some x) (hu:(f x).flat[o]?=some u):
  yr h0 al false 1 h (some (.vel b v (i * sz + o)))=some ⟨u,false,none,h⟩:=by
 have hlt:=(List.getElem?_eq_some_iff.1 hu).1
 rw [hf] at hlt
 obtain ⟨h1,h2⟩:=qez (n:=1) hf hx (by omega:o + 1≤sz)
 have hg:ze h b=some (.vec sz v (l.map f)):=hb
 show (bif qe3 h0 al b then (match ze h b with
   | some (.vec _ ver' xs)=>bif Nat.beq v ver' && Nat.ble (i * sz + o + 1) (xs.flatMap AVal.flat).length then (bif false then val h (.agg (((xs.flatMap AVal.flat).drop (i * sz + o)).take 1)) else (match ((xs.flatMap AVal.flat).drop (i * sz + o)).take 1 with
     | [v]=>val h v
     | _=>none)) else none
   | _=>none) else none)=_
 rw [hal,hg]
 simp only [cond_true,Nat.beq_refl,Bool.true_and]
 have h3:Nat.ble (i * sz + o + 1) ((l.map f).flatMap AVal.flat).length=true:=Nat.ble_eq_true_of_le h2
 have h4:(((l.map f).flatMap AVal.flat).drop (i * sz + o)).take 1=[u]:=by
  show ((za f l).drop (i * sz + o)).take 1=[u]
  have hol:=(List.getElem?_eq_some_iff.1 hu).1
  rw [h1,List.drop_eq_getElem_cons hol,(List.getElem?_eq_some_iff.1 hu).2]
  rfl
 rw [h3,h4]
 rfl
def kw (h0:Nat) (r sz bytes:Nat) (h:qf) (x y:Option AVal):Option ORes:=match x,y with
 | some (.list true _ []),some vy=>(match zp sz vy with
   | some ys=>
    bif Nat.ble ys.length 1073741824 && Nat.ble bytes 4096 && Nat.blt 0 sz && !ys.isEmpty && ja 0 ys && Nat.blt r 1000 then
     (match newBox h0 h r (.vec sz 0 ys) with
      | some h'=>val h' (.vref (h0 + r) 0 ys.length)
      | none=>none) else none
   | none=>none)
 | some (.vref b ver len),some vy=>(match ze h b with
  | some (.vec sz' ver' xs)=>(match zp sz vy with
   | some ys=>
    bif Nat.beq ver ver' && Nat.beq sz sz' && Nat.ble len xs.length && Nat.ble (len + ys.length) 1073741824 && Nat.ble bytes 4096 && Nat.blt 0 sz && ja 0 ys && Nat.blt r 1000 then
     (match jt h b (.vec sz (ver + 1) (xs.take len++ys)) with
      | some h'=>val h' (.vref b (ver + 1) (len + ys.length))
      | none=>none) else none
   | none=>none)
  | _=>none)
 | _,_=>none
@[go_sem] theorem zhc {r sz bytes:Nat} {x y:qq}:qg p xc h0 al e h (.vapp r sz bytes x y)=kw h0 r sz bytes h (qj e x) (qj e y):=rfl
theorem qgs {r sz z bytes:Nat} {ys:List AVal} {b:Bool} {h':qf} (hl:ys.length≤1073741824) (hb:bytes≤4096) (hz:0 < sz) (hne:ys ≠ []) (hp:ja 0 ys=true) (hr:r < 1000) (hn:newBox h0 h r (.vec sz 0 ys)=some h'):kw h0 r sz bytes h (some (.list true z [])) (some (.list b sz ys))=some ⟨.vref (h0 + r) 0 ys.length,false,none,h'⟩:=by
 have h5:ys.isEmpty=false:=by cases ys <;> simp at hne ⊢
 simp only [kw,zp,Nat.beq_refl,Bool.true_or,cond_true,Nat.ble_eq_true_of_le hl,Nat.ble_eq_true_of_le hb,Nat.blt_eq.mpr hz,h5,hp,Nat.blt_eq.mpr hr,Bool.not_false,Bool.and_self,hn]
 rfl
theorem jbi {r sz bytes b v len:Nat} {xs ys:List AVal} {c:Bool} (hbx:h[b]?=some (.vec sz v xs)) (hlen:len≤xs.length) (hl:len + ys.length≤1073741824) (hb:bytes≤4096) (hz:0 < sz) (hp:ja 0 ys=true) (hr:r < 1000):
  kw h0 r sz bytes h (some (.vref b v len)) (some (.list c sz ys))=some ⟨.vref b (v + 1) (len + ys.length),false,none,h.set b (.vec sz (v + 1) (xs.take len++ys))⟩:=by
 have hg:ze h b=some (.vec sz v xs):=hbx
 have hlt:=(List.getElem?_eq_some_iff.1 hbx).1
 simp only [kw,hg,zp,Nat.beq_refl,Bool.true_or,cond_true,Nat.ble_eq_true_of_le hlen,Nat.ble_eq_true_of_le hl,Nat.ble_eq_true_of_le hb,Nat.blt_eq.mpr hz,hp,Nat.blt_eq.mpr hr,Bool.and_self,jt,Nat.blt_eq.mpr hlt]
 rfl
theorem jac {sz b v len i:Nat} {k:IntKind} (hi:i < len):qbd sz h (some (.vref b v len)) (some (.int k (i:Int)))=some ⟨.vel b v (i * sz),false,none,h⟩:=by
 have:idx len (.int k (i:Int))=some i:=by rw [qfr]; exact qtd hi
 simp only [qbd,this]
 rfl
@[go_sem] theorem j9n {n:Nat}:qg p xc h0 al e h (.valloc n)=some ⟨.pend n,true,none,h⟩:=rfl
def qr0 (n:Nat) (h:qf) (x:Option (AVal × Bool)) (y:Option AVal):Option ORes:=match x,y with
 | some (.pend m,true),some v=>ifR (Nat.beq m n && Nat.beq v.flat.length n && v.flat.all ql) (some ⟨.vptr v,false,none,h⟩)
 | _,_=>none
theorem q2i {n m:Nat} {v:AVal}:qr0 n h (some (.pend m,true)) (some v)=ifR (Nat.beq m n && Nat.beq v.flat.length n && v.flat.all ql) (some ⟨.vptr v,false,none,h⟩):=rfl
@[go_sem] theorem j60 {n:Nat} {v:AVal} (hv:(Nat.beq v.flat.length n && v.flat.all ql)=true):qr0 n h (some (.pend n,true)) (some v)=some ⟨.vptr v,false,none,h⟩:=by
 rw [q2i,Nat.beq_refl,Bool.true_and,hv]; rfl
@[go_sem] theorem za9 {n s:Nat} {x:qq}:qg p xc h0 al e h (.vstore n s x)=qr0 n h (jm s e) (qj e x):=by
 simp only [qg,qp,qr0]
 split
 ·rename_i m v h1 h2
  rw [h1,h2]
  simp only [ifR]
  cases (Nat.beq m n && Nat.beq v.flat.length n && v.flat.all ql) <;> rfl
 ·rename_i hno
  split
  ·rename_i m v h1 h2
   exact absurd h2 (hno m v h1)
  ·rfl
end
end Go.Abs
