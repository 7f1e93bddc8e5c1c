/-
  Equations of the executor, third part: loops over lists, strings, maps, slices that are written.
-/
import Derived.Test.YtnjngdcbkkonnaaGreatDoorAbsJ
set_option linter.unusedVariables false
set_option linter.unusedSimpArgs false
namespace Go.Abs
section
variable {p:js} {xc:XC} {h0:Nat} {al:Option (List Nat)} {e:Env} {h:ql} {α:Type}
def jbr {γ δ:Type} (En:γ→jg × ASt) (Ex:δ→jg × ASt):γ ⊕ δ→jg × ASt
 | .inl s=>En s
 | .inr d=>Ex d
@[simp] theorem jsi {γ δ:Type} {En:γ→jg × ASt} {Ex:δ→jg × ASt} {s:γ}:jbr En Ex (.inl s)=En s:=rfl
@[simp] theorem jr9 {γ δ:Type} {En:γ→jg × ASt} {Ex:δ→jg × ASt} {s:δ}:jbr En Ex (.inr s)=Ex s:=rfl
def qdq {α γ δ:Type} (p:js) (c:ACode) (St:Nat→γ→ASt) (g:Nat→γ→α→γ ⊕ δ) (Ex:δ→jg × ASt) (Inv:Nat→γ→Prop) (i:Nat) (s:γ) (x:α):Prop:=
 match g i s x with
 | .inl s'=>Inv (i + 1) s'∧∃ st',X p c (St i s)=some (.normal,st')∧gc (St i s).heap.length st'=St (i + 1) s'
 | .inr d=>X p c (St i s)=some (Ex d)
theorem q29 {c:ACode} {n:Nat} {r:jg × ASt} (hr:r.1 ≠ .normal):qoa p c n (some r)=some r:=by
 obtain ⟨x,st⟩:=r
 cases x with
 | normal=>exact absurd rfl hr
 | ret=>rfl
 | exit id=>rfl
theorem zp {n:Nat} {st:ASt} {h':ql} (hn:n=h.length) (hs:st.heap=h++h') (h1:km n st.env=true) (h2:jz n h=true):gc n st=⟨st.env,h⟩:=by
 obtain ⟨ev,hp⟩:=st
 simp only at hs h1
 subst hs hn
 unfold gc
 cases h' with
 | nil=>simp
 | cons b h'=>
  have hle:Nat.ble (h++b::h').length h.length=false:=by
   rw [qaq]; simp
  simp only [hle,cond_false,List.take_left',h1,h2,Bool.and_self,cond_true]
def qjq (h:ql) (x i:Option AVal):Option ORes:=match x,i with
 | some (.str s),some j=>(match idx s.length j with
   | some j=>(match s[j]? with
    | some c=>val h (.int .u8 c.toNat)
    | none=>none)
   | none=>none)
 | _,_=>none
@[go_sem] theorem jj0 {x i:qx}:qh p xc h0 al e h (.strIndex x i)=qjq h (qk e x) (qk e i):=by
 simp only [qh,qt,qjq]
 cases qk e x with
 | none=>rfl
 | some v=>cases v with
  | str s=>cases qk e i <;> rfl
  | _=>cases qk e i <;> rfl
theorem q4i {s:List UInt8} {k:IntKind} {i:Nat} {c:UInt8} (hc:s[i]?=some c):qjq h (some (.str s)) (some (.int k (i:Int)))=some ⟨.int .u8 c.toNat,false,none,h⟩:=by
 have hl:i < s.length:=(List.getElem?_eq_some_iff.1 hc).1
 have:idx s.length (.int k (i:Int))=some i:=by rw [qdi,qle hl]
 simp only [qjq,this,hc,val]
@[go_sem] theorem jty {a b:List UInt8}:zn .eql (.str a) (.str b)=some (.bool (decide (a=b))):=by
 by_cases hab:a=b <;> simp [zn,qka,hab]
@[go_sem] theorem jtn {a b:List UInt8}:zn .neq (.str a) (.str b)=some (.bool (!decide (a=b))):=by
 by_cases hab:a=b <;> simp [zn,qka,hab]
def qr8 (h0 r:Nat) (h:ql) (x:Option AVal):Option ORes:=match x with
 | some (.str s)=>qai (newBox h0 h r (.iter s 0)) (.ptr (h0 + r) 0)
 | _=>none
@[go_sem] theorem jfd {r:Nat} {s:List UInt8}:qr8 h0 r h (some (.str s))=qai (newBox h0 h r (.iter s 0)) (.ptr (h0 + r) 0):=rfl
@[go_sem] theorem jsp {r:Nat} {x:qx}:qh p xc h0 al e h (.srange r x)=qr8 h0 r h (qk e x):=by
 simp only [qh,qy,qr8]
 cases qk e x with
 | none=>rfl
 | some v=>cases v with
  | str s=>simp only [qai]; cases newBox h0 h r (.iter s 0) <;> rfl
  | _=>rfl
def qgp (h:ql) (b:Nat) (x:Option ABox):Option ORes:=match x with
 | some (.iter s pos)=>bif Nat.blt pos s.length then qai (j0 h b (.iter s (pos + (qm s pos).2))) (.tup [.bool true,.int .i64 pos,.int .i32 (qm s pos).1]) else val h (.tup [.bool false])
 | _=>none
theorem q6n {b pos:Nat} {s:List UInt8} (hp:pos < s.length):qgp h b (some (.iter s pos))=qai (j0 h b (.iter s (pos + (qm s pos).2))) (.tup [.bool true,.int .i64 pos,.int .i32 (qm s pos).1]):=by
 simp only [qgp,qcn,hp,decide_true,cond_true]
theorem q38 {b pos:Nat} {s:List UInt8} (hp:¬ pos < s.length):qgp h b (some (.iter s pos))=some ⟨.tup [.bool false],false,none,h⟩:=by
 simp only [qgp,qcn,hp,decide_false,cond_false,val]
def qu9 (h0:Nat) (al:Option (List Nat)) (h:ql) (x:Option AVal):Option ORes:=match x with
 | some (.ptr b 0)=>ifR (j9 h0 al b) (qgp h b h[b]?)
 | _=>none
@[go_sem] theorem jgj {b:Nat}:qu9 h0 al h (some (.ptr b 0))=ifR (j9 h0 al b) (qgp h b h[b]?):=rfl
@[go_sem] theorem jtg {x:qx}:qh p xc h0 al e h (.snext x)=qu9 h0 al h (qk e x):=by
 simp only [qh,qy,qu9]
 cases qk e x with
 | none=>rfl
 | some v=>cases v with
  | ptr b o=>
   cases o with
   | succ o=>rfl
   | zero=>
    simp only [ifR,yf,qgp,qai]
    cases j9 h0 al b with
    | false=>rfl
    | true=>
     simp only [cond_true]
     cases h[b]? with
     | none=>rfl
     | some x=>cases x with
      | iter s pos=>
       simp only []
       cases Nat.blt pos s.length with
       | false=>rfl
       | true=>simp only [cond_true]; cases j0 h b (.iter s (pos + (qm s pos).2)) <;> rfl
      | _=>rfl
  | _=>rfl
theorem q30 {s:List UInt8} {i:Nat} {c:UInt8} (hc:s[i]?=some c) (hl:c.toNat < 128):qm s i=(c.toNat,1):=by
 have hg:(ByteArray.get! ⟨⟨s⟩⟩ (i + 0))=c:=by
  obtain ⟨h1,h2⟩:=List.getElem?_eq_some_iff.1 hc
  simp [ByteArray.get!,h1,h2]
 simp only [qm,Utf8.decode,hg,hl,if_true]
theorem q36 {s:List UInt8} {i:Nat} {c:UInt8} (hc:s[i]?=some c) (hl:¬ c.toNat < 128):128≤(qm s i).1:=by
 have hg:(ByteArray.get! ⟨⟨s⟩⟩ (i + 0))=c:=by
  obtain ⟨h1,h2⟩:=List.getElem?_eq_some_iff.1 hc
  simp [ByteArray.get!,h1,h2]
 simp only [qm,Utf8.decode,hg,hl,if_false,Utf8.runeError]
 split
 ·split <;> simp <;> omega
 ·split
  ·split
   ·next hh=>simp only [Bool.and_eq_true,decide_eq_true_eq] at hh; simp only; omega
   ·decide
  ·split
   ·split
    ·next hh=>simp only [Bool.and_eq_true,decide_eq_true_eq] at hh; simp only; omega
    ·decide
   ·decide
def qqz (h:ql) (zero:AVal) (r:Option (Option (Nat × AVal))):Option ORes:=match r with
 | some (some (_,v))=>val h v
 | some none=>val h zero
 | none=>none
@[go_sem] theorem q1b {z v:AVal} {i:Nat}:qqz h z (some (some (i,v)))=some ⟨v,false,none,h⟩:=rfl
@[go_sem] theorem q0m {z:AVal}:qqz h z (some none)=some ⟨z,false,none,h⟩:=rfl
def qrr (h:ql) (kd:Kd) (z kv:AVal) (x:Option ABox):Option ORes:=match x with
 | some (.map es)=>qqz h z (j5 kd kv es 0)
 | _=>none
@[go_sem] theorem q3y {kd:Kd} {z kv:AVal} {es:List (AVal × AVal)}:qrr h kd z kv (some (.map es))=qqz h z (j5 kd kv es 0):=rfl
def qs6 (h0:Nat) (al:Option (List Nat)) (h:ql) (kd:Kd) (z:AVal) (m k:Option AVal):Option ORes:=match m,k with
 | some (.map b),some kv=>ifR (j9 h0 al b) (qrr h kd z kv h[b]?)
 | some .nilmap,some _=>val h z
 | _,_=>none
@[go_sem] theorem jf3 {kd:Kd} {z kv:AVal} {b:Nat}:qs6 h0 al h kd z (some (.map b)) (some kv)=ifR (j9 h0 al b) (qrr h kd z kv h[b]?):=rfl
@[go_sem] theorem jqg {kd:Kd} {z:AVal} {m k:qx}:qh p xc h0 al e h (.lookup kd z false m k)=qs6 h0 al h kd z (qk e m) (qk e k):=by
 simp only [qh,yk,qs6]
 cases qk e m with
 | none=>cases qk e k <;> rfl
 | some v=>cases qk e k with
  | none=>cases v <;> rfl
  | some kv=>cases v with
   | map b=>
    simp only [ifR,yf,qrr,qqz]
    cases j9 h0 al b with
    | false=>rfl
    | true=>
     simp only [cond_true]
     cases h[b]? with
     | none=>rfl
     | some x=>cases x with
      | map es=>
       simp only []
       cases j5 kd kv es 0 with
       | none=>rfl
       | some r=>cases r <;> rfl
      | _=>rfl
   | _=>rfl
def q1p (h:ql) (b:Nat) (es:List (AVal × AVal)) (kv v:AVal) (r:Option (Option (Nat × AVal))):Option ORes:=match r with
 | some (some (i,_))=>qai (j0 h b (.map (qan es i v))) .undef
 | some none=>ifR (Nat.ble es.length 1073741824) (qai (j0 h b (.map (es++[(kv,v)]))) .undef)
 | none=>none
@[go_sem] theorem q4d {b:Nat} {es:List (AVal × AVal)} {kv v:AVal}:q1p h b es kv v (some none)=ifR (Nat.ble es.length 1073741824) (qai (j0 h b (.map (es++[(kv,v)]))) .undef):=rfl
def qsm (h:ql) (b:Nat) (kd:Kd) (kv v:AVal) (x:Option ABox):Option ORes:=match x with
 | some (.map es)=>q1p h b es kv v (j5 kd kv es 0)
 | _=>none
@[go_sem] theorem qwn {b:Nat} {kd:Kd} {kv v:AVal} {es:List (AVal × AVal)}:qsm h b kd kv v (some (.map es))=q1p h b es kv v (j5 kd kv es 0):=rfl
def q68 (h0:Nat) (al:Option (List Nat)) (h:ql) (kd:Kd) (m k x:Option AVal):Option ORes:=match m,k,x with
 | some (.map b),some kv,some v=>ifR (j9 h0 al b) (qsm h b kd kv v h[b]?)
 | _,_,_=>none
@[go_sem] theorem js7 {b:Nat} {kd:Kd} {kv v:AVal}:q68 h0 al h kd (some (.map b)) (some kv) (some v)=ifR (j9 h0 al b) (qsm h b kd kv v h[b]?):=rfl
@[go_sem] theorem jft {kd:Kd} {m k x:qx}:qh p xc h0 al e h (.mapUpdate kd m k x)=q68 h0 al h kd (qk e m) (qk e k) (qk e x):=by
 simp only [qh,qy,q68]
 cases qk e m with
 | none=>cases qk e k <;> cases qk e x <;> rfl
 | some v=>cases qk e k with
  | none=>cases v <;> cases qk e x <;> rfl
  | some kv=>cases qk e x with
   | none=>cases v <;> rfl
   | some xv=>cases v with
    | map b=>
     simp only [ifR,yf,qsm,q1p,qai]
     cases j9 h0 al b with
     | false=>rfl
     | true=>
      simp only [cond_true]
      cases h[b]? with
      | none=>rfl
      | some x=>cases x with
       | map es=>
        simp only []
        cases j5 kd kv es 0 with
        | none=>rfl
        | some r=>cases r with
         | none=>
          simp only []
          cases Nat.ble es.length 1073741824 with
          | false=>rfl
          | true=>simp only [cond_true]; cases j0 h b (.map (es++[(kv,xv)])) <;> rfl
         | some r=>simp only []; cases j0 h b (.map (qan es r.1 xv)) <;> rfl
       | _=>rfl
    | _=>rfl
def kg (l:List (List UInt8)):List (AVal × AVal):=l.map fun s=>(.str s,.bool true)
theorem qxk (s:List UInt8):∀ (l:List (List UInt8)) (i:Nat),j5 .str (.str s) (kg l) i=some (if s∈l then some (i + l.idxOf s,.bool true) else none)
 | [],i=>by simp [kg,j5]
 | a::l,i=>by
  show j5 .str (.str s) ((.str a,.bool true)::kg l) i=_
  simp only [j5,ky]
  by_cases hs:s=a
  ·subst hs; simp
  ·have hb:(s == a)=false:=by simp [hs]
   have ha:¬ a=s:=fun hh=>hs hh.symm
   simp only [hb]
   rw [qxk s l (i + 1)]
   by_cases hm:s∈l
   ·have hb':(a == s)=false:=by simp [ha]
    simp [hm,List.idxOf_cons,hb']; omega
   ·simp [hm,hs]
@[go_sem] theorem qpp {s:List UInt8} {l:List (List UInt8)}:j5 .str (.str s) (kg l) 0=some (if s∈l then some (l.idxOf s,.bool true) else none):=by
 rw [qxk]; simp
theorem q0p (l:List (List UInt8)) (s:List UInt8):kg l++[(.str s,.bool true)]=kg (l++[s]):=by simp [kg]
@[go_sem] theorem q22 {l:List (List UInt8)}:(kg l).length=l.length:=by simp [kg]
def qcx (agg:Bool) (len sz:Nat) (h:ql) (x i:Option AVal):Option ORes:=match x,i with
  | some (.ptr b o),some j=>(match idx len j with
   | some j=>val h (.ptr b (o + j * sz))
   | none=>none)
  | some (.vptr (.agg cs)),some j=>(match idx len j with
   | some j=>(match part agg cs (j * sz) sz with
    | some v=>bif Bool.xor agg v.isAgg then none else val h (.vptr v)
    | none=>none)
   | none=>none)
  | _,_=>none
@[go_sem] theorem jg4 {agg:Bool} {len sz:Nat} {x i:qx}:qh p xc h0 al e h (.indexArr agg len sz x i)=qcx agg len sz h (qk e x) (qk e i):=rfl
end
end Go.Abs
