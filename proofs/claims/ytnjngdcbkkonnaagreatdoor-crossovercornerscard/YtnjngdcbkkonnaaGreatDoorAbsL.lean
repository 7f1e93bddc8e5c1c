/- Equations of the executor, third part. -/
import Derived.Test.YtnjngdcbkkonnaaGreatDoorAbsJ
set_option linter.unusedVariables false
set_option linter.unusedSimpArgs false
namespace Go.Abs
section
variable {p:ju} {xc:XC} {h0:Nat} {al:Option (List Nat)} {e:Env} {h:qk} {α:Type}
def jem {γ δ:Type} (En:γ→ji × ASt) (Ex:δ→ji × ASt):γ ⊕ δ→ji × ASt
 | .inl s=>En s
 | .inr d=>Ex d
@[simp] theorem jr1 {γ δ:Type} {En:γ→ji × ASt} {Ex:δ→ji × ASt} {s:γ}:jem En Ex (.inl s)=En s:=rfl
@[simp] theorem jqw {γ δ:Type} {En:γ→ji × ASt} {Ex:δ→ji × ASt} {s:δ}:jem En Ex (.inr s)=Ex s:=rfl
def qd1 {α γ δ:Type} (p:ju) (c:ACode) (St:Nat→γ→ASt) (g:Nat→γ→α→γ ⊕ δ) (Ex:δ→ji × ASt) (Inv:Nat→γ→Prop) (i:Nat) (s:γ) (x:α):Prop:=
 match g i s x with
 | .inl s'=>Inv (i + 1) s'∧∃ st',X p c (St i s)=some (.normal,st')∧gc (St i s).heap.length st'=St (i + 1) s'
 | .inr d=>X p c (St i s)=some (Ex d)
theorem q34 {c:ACode} {n:Nat} {r:ji × ASt} (hr:r.1 ≠ .normal):qo3 p c n (some r)=some r:=by
 obtain ⟨x,st⟩:=r
 cases x with
 | normal=>exact absurd rfl hr
 | ret=>rfl
 | exit id=>rfl
theorem zz {n:Nat} {st:ASt} {h':qk} (hn:n=h.length) (hs:st.heap=h++h') (h1:y9 n st.env=true) (h2:jt n h=true):gc n st=⟨st.env,h⟩:=by
 obtain ⟨ev,hp⟩:=st
 simp only at hs h1
 subst hs hn
 unfold gc
 cases h' with
 | nil=>simp
 | cons b h'=>
  have hle:Nat.ble (h++b::h').length h.length=false:=by
   rw [qaw]; simp
  simp only [hle,cond_false,List.take_left',h1,h2,Bool.and_self,cond_true]
def qk7 (h:qk) (x i:Option AVal):Option ORes:=match x,i with
 | some (.str s),some j=>(match idx s.length j with
   | some j=>(match s[j]? with
    | some c=>val h (.int .u8 c.toNat)
    | none=>none)
   | none=>none)
 | _,_=>none
@[go_sem] theorem jmi {x i:qu}:qg p xc h0 al e h (.strIndex x i)=qk7 h (ql e x) (ql e i):=by
 simp only [qg,qr,qk7]
 cases ql e x with
 | none=>rfl
 | some v=>cases v with
  | str s=>cases ql e i <;> rfl
  | _=>cases ql e i <;> rfl
theorem q3t {s:List UInt8} {k:IntKind} {i:Nat} {c:UInt8} (hc:s[i]?=some c):qk7 h (some (.str s)) (some (.int k (i:Int)))=some ⟨.int .u8 c.toNat,false,none,h⟩:=by
 have hl:i < s.length:=(List.getElem?_eq_some_iff.1 hc).1
 have:idx s.length (.int k (i:Int))=some i:=by rw [qeh,qp9 hl]
 simp only [qk7,this,hc,val]
@[go_sem] theorem juj {a b:List UInt8}:zk .eql (.str a) (.str b)=some (.bool (decide (a=b))):=by
 by_cases hab:a=b <;> simp [zk,qlg,hab]
@[go_sem] theorem jt0 {a b:List UInt8}:zk .neq (.str a) (.str b)=some (.bool (!decide (a=b))):=by
 by_cases hab:a=b <;> simp [zk,qlg,hab]
def qtv (h0 r:Nat) (h:qk) (x:Option AVal):Option ORes:=match x with
 | some (.str s)=>qas (newBox h0 h r (.iter s 0)) (.ptr (h0 + r) 0)
 | _=>none
@[go_sem] theorem jhd {r:Nat} {s:List UInt8}:qtv h0 r h (some (.str s))=qas (newBox h0 h r (.iter s 0)) (.ptr (h0 + r) 0):=rfl
@[go_sem] theorem js5 {r:Nat} {x:qu}:qg p xc h0 al e h (.srange r x)=qtv h0 r h (ql e x):=by
 simp only [qg,qw,qtv]
 cases ql e x with
 | none=>rfl
 | some v=>cases v with
  | str s=>simp only [qas]; cases newBox h0 h r (.iter s 0) <;> rfl
  | _=>rfl
def qhg (h:qk) (b:Nat) (x:Option ABox):Option ORes:=match x with
 | some (.iter s pos)=>bif Nat.blt pos s.length then qas (jz h b (.iter s (pos + (qn s pos).2))) (.tup [.bool true,.int .i64 pos,.int .i32 (qn s pos).1]) else val h (.tup [.bool false])
 | _=>none
theorem q7i {b pos:Nat} {s:List UInt8} (hp:pos < s.length):qhg h b (some (.iter s pos))=qas (jz h b (.iter s (pos + (qn s pos).2))) (.tup [.bool true,.int .i64 pos,.int .i32 (qn s pos).1]):=by
 simp only [qhg,qcx,hp,decide_true,cond_true]
theorem q6e {b pos:Nat} {s:List UInt8} (hp:¬ pos < s.length):qhg h b (some (.iter s pos))=some ⟨.tup [.bool false],false,none,h⟩:=by
 simp only [qhg,qcx,hp,decide_false,cond_false,val]
def qxi (h0:Nat) (al:Option (List Nat)) (h:qk) (x:Option AVal):Option ORes:=match x with
 | some (.ptr b 0)=>ifR (j8 h0 al b) (qhg h b h[b]?)
 | _=>none
@[go_sem] theorem ji9 {b:Nat}:qxi h0 al h (some (.ptr b 0))=ifR (j8 h0 al b) (qhg h b h[b]?):=rfl
@[go_sem] theorem jt2 {x:qu}:qg p xc h0 al e h (.snext x)=qxi h0 al h (ql e x):=by
 simp only [qg,qw,qxi]
 cases ql e x with
 | none=>rfl
 | some v=>cases v with
  | ptr b o=>
   cases o with
   | succ o=>rfl
   | zero=>
    simp only [ifR,zu,qhg,qas]
    cases j8 h0 al b with
    | false=>rfl
    | true=>
     simp only [cond_true]
     cases h[b]? with
     | none=>rfl
     | some x=>cases x with
      | iter s pos=>
       simp only []
       cases Nat.blt pos s.length with
       | false=>rfl
       | true=>simp only [cond_true]; cases jz h b (.iter s (pos + (qn s pos).2)) <;> rfl
      | _=>rfl
  | _=>rfl
theorem q5p {s:List UInt8} {i:Nat} {c:UInt8} (hc:s[i]?=some c) (hl:c.toNat < 128):qn s i=(c.toNat,1):=by
 have hg:(ByteArray.get! ⟨⟨s⟩⟩ (i + 0))=c:=by
  obtain ⟨h1,h2⟩:=List.getElem?_eq_some_iff.1 hc
  simp [ByteArray.get!,h1,h2]
 simp only [qn,Utf8.decode,hg,hl,if_true]
theorem q33 {s:List UInt8} {i:Nat} {c:UInt8} (hc:s[i]?=some c) (hl:¬ c.toNat < 128):128≤(qn s i).1:=by
 have hg:(ByteArray.get! ⟨⟨s⟩⟩ (i + 0))=c:=by
  obtain ⟨h1,h2⟩:=List.getElem?_eq_some_iff.1 hc
  simp [ByteArray.get!,h1,h2]
 simp only [qn,Utf8.decode,hg,hl,if_false,Utf8.runeError]
 split
 ·split <;> simp <;> omega
 ·split
  ·split
   ·next hh=>simp only [Bool.and_eq_true,decide_eq_true_eq] at hh; simp only; omega
   ·decide
  ·split
   ·split
    ·next hh=>simp only [Bool.and_eq_true,decide_eq_true_eq] at hh; simp only; omega
    ·decide
   ·decide
def qr8 (h:qk) (zero:AVal) (r:Option (Option (Nat × AVal))):Option ORes:=match r with
 | some (some (_,v))=>val h v
 | some none=>val h zero
 | none=>none
@[go_sem] theorem q2u {z v:AVal} {i:Nat}:qr8 h z (some (some (i,v)))=some ⟨v,false,none,h⟩:=rfl
@[go_sem] theorem q2x {z:AVal}:qr8 h z (some none)=some ⟨z,false,none,h⟩:=rfl
def qrr (h:qk) (kd:Kd) (z kv:AVal) (x:Option ABox):Option ORes:=match x with
 | some (.map es)=>qr8 h z (j4 kd kv es 0)
 | _=>none
@[go_sem] theorem q5e {kd:Kd} {z kv:AVal} {es:List (AVal × AVal)}:qrr h kd z kv (some (.map es))=qr8 h z (j4 kd kv es 0):=rfl
def qth (h0:Nat) (al:Option (List Nat)) (h:qk) (kd:Kd) (z:AVal) (m k:Option AVal):Option ORes:=match m,k with
 | some (.map b),some kv=>ifR (j8 h0 al b) (qrr h kd z kv h[b]?)
 | some .nilmap,some _=>val h z
 | _,_=>none
@[go_sem] theorem jgj {kd:Kd} {z kv:AVal} {b:Nat}:qth h0 al h kd z (some (.map b)) (some kv)=ifR (j8 h0 al b) (qrr h kd z kv h[b]?):=rfl
@[go_sem] theorem jsr {kd:Kd} {z:AVal} {m k:qu}:qg p xc h0 al e h (.lookup kd z false m k)=qth h0 al h kd z (ql e m) (ql e k):=by
 simp only [qg,yp,qth]
 cases ql e m with
 | none=>cases ql e k <;> rfl
 | some v=>cases ql e k with
  | none=>cases v <;> rfl
  | some kv=>cases v with
   | map b=>
    simp only [ifR,zu,qrr,qr8]
    cases j8 h0 al b with
    | false=>rfl
    | true=>
     simp only [cond_true]
     cases h[b]? with
     | none=>rfl
     | some x=>cases x with
      | map es=>
       simp only []
       cases j4 kd kv es 0 with
       | none=>rfl
       | some r=>cases r <;> rfl
      | _=>rfl
   | _=>rfl
def q09 (h:qk) (b:Nat) (es:List (AVal × AVal)) (kv v:AVal) (r:Option (Option (Nat × AVal))):Option ORes:=match r with
 | some (some (i,_))=>qas (jz h b (.map (qaz es i v))) .undef
 | some none=>ifR (Nat.ble es.length 1073741824) (qas (jz h b (.map (es++[(kv,v)]))) .undef)
 | none=>none
@[go_sem] theorem q4l {b:Nat} {es:List (AVal × AVal)} {kv v:AVal}:q09 h b es kv v (some none)=ifR (Nat.ble es.length 1073741824) (qas (jz h b (.map (es++[(kv,v)]))) .undef):=rfl
def qtr (h:qk) (b:Nat) (kd:Kd) (kv v:AVal) (x:Option ABox):Option ORes:=match x with
 | some (.map es)=>q09 h b es kv v (j4 kd kv es 0)
 | _=>none
@[go_sem] theorem qwn {b:Nat} {kd:Kd} {kv v:AVal} {es:List (AVal × AVal)}:qtr h b kd kv v (some (.map es))=q09 h b es kv v (j4 kd kv es 0):=rfl
def q8h (h0:Nat) (al:Option (List Nat)) (h:qk) (kd:Kd) (m k x:Option AVal):Option ORes:=match m,k,x with
 | some (.map b),some kv,some v=>ifR (j8 h0 al b) (qtr h b kd kv v h[b]?)
 | _,_,_=>none
@[go_sem] theorem jp4 {b:Nat} {kd:Kd} {kv v:AVal}:q8h h0 al h kd (some (.map b)) (some kv) (some v)=ifR (j8 h0 al b) (qtr h b kd kv v h[b]?):=rfl
@[go_sem] theorem jg7 {kd:Kd} {m k x:qu}:qg p xc h0 al e h (.mapUpdate kd m k x)=q8h h0 al h kd (ql e m) (ql e k) (ql e x):=by
 simp only [qg,qw,q8h]
 cases ql e m with
 | none=>cases ql e k <;> cases ql e x <;> rfl
 | some v=>cases ql e k with
  | none=>cases v <;> cases ql e x <;> rfl
  | some kv=>cases ql e x with
   | none=>cases v <;> rfl
   | some xv=>cases v with
    | map b=>
     simp only [ifR,zu,qtr,q09,qas]
     cases j8 h0 al b with
     | false=>rfl
     | true=>
      simp only [cond_true]
      cases h[b]? with
      | none=>rfl
      | some x=>cases x with
       | map es=>
        simp only []
        cases j4 kd kv es 0 with
        | none=>rfl
        | some r=>cases r with
         | none=>
          simp only []
          cases Nat.ble es.length 1073741824 with
          | false=>rfl
          | true=>simp only [cond_true]; cases jz h b (.map (es++[(kv,xv)])) <;> rfl
         | some r=>simp only []; cases jz h b (.map (qaz es r.1 xv)) <;> rfl
       | _=>rfl
    | _=>rfl
def ku (l:List (List UInt8)):List (AVal × AVal):=l.map fun s=>(.str s,.bool true)
theorem qyc (s:List UInt8):∀ (l:List (List UInt8)) (i:Nat),j4 .str (.str s) (ku l) i=some (if s∈l then some (i + l.idxOf s,.bool true) else none)
 | [],i=>by simp [ku,j4]
 | a::l,i=>by
  show j4 .str (.str s) ((.str a,.bool true)::ku l) i=_
  simp only [j4,qam]
  by_cases hs:s=a
  ·subst hs; simp
  ·have hb:(s == a)=false:=by simp [hs]
   have ha:¬ a=s:=fun hh=>hs hh.symm
   simp only [hb]
   rw [qyc s l (i + 1)]
   by_cases hm:s∈l
   ·have hb':(a == s)=false:=by simp [ha]
    simp [hm,List.idxOf_cons,hb']; omega
   ·simp [hm,hs]
@[go_sem] theorem qqb {s:List UInt8} {l:List (List UInt8)}:j4 .str (.str s) (ku l) 0=some (if s∈l then some (l.idxOf s,.bool true) else none):=by
 rw [qyc]; simp
theorem q13 (l:List (List UInt8)) (s:List UInt8):ku l++[(.str s,.bool true)]=ku (l++[s]):=by simp [ku]
@[go_sem] theorem q46 {l:List (List UInt8)}:(ku l).length=l.length:=by simp [ku]
def qdf (agg:Bool) (len sz:Nat) (h:qk) (x i:Option AVal):Option ORes:=match x,i with
  | some (.ptr b o),some j=>(match idx len j with
   | some j=>val h (.ptr b (o + j * sz))
   | none=>none)
  | some (.vptr (.agg cs)),some j=>(match idx len j with
   | some j=>(match part agg cs (j * sz) sz with
    | some v=>bif Bool.xor agg v.isAgg then none else val h (.vptr v)
    | none=>none)
   | none=>none)
  | _,_=>none
@[go_sem] theorem jlw {agg:Bool} {len sz:Nat} {x i:qu}:qg p xc h0 al e h (.indexArr agg len sz x i)=qdf agg len sz h (ql e x) (ql e i):=rfl
end
end Go.Abs
