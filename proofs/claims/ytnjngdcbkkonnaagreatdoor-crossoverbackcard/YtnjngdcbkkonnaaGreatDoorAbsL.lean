/- Equations of the executor, third part. -/
import Derived.Test.YtnjngdcbkkonnaaGreatDoorAbsJ
set_option linter.unusedVariables false
set_option linter.unusedSimpArgs false
namespace Go.Abs
section
variable {p:jk} {xc:XC} {h0:Nat} {al:Option (List Nat)} {e:Env} {h:qh} {α:Type}
def q6b {γ δ:Type} (En:γ→jg × ASt) (Ex:δ→jg × ASt):γ ⊕ δ→jg × ASt
 | .inl s=>En s
 | .inr d=>Ex d
@[simp] theorem jkt {γ δ:Type} {En:γ→jg × ASt} {Ex:δ→jg × ASt} {s:γ}:q6b En Ex (.inl s)=En s:=rfl
@[simp] theorem jkr {γ δ:Type} {En:γ→jg × ASt} {Ex:δ→jg × ASt} {s:δ}:q6b En Ex (.inr s)=Ex s:=rfl
theorem qyx {c:ACode} {n:Nat} {r:jg × ASt} (hr:r.1 ≠ .normal):qlp p c n (some r)=some r:=by
 obtain ⟨x,st⟩:=r
 cases x with
 | normal=>exact absurd rfl hr
 | ret=>rfl
 | exit id=>rfl
theorem kz {n:Nat} {st:ASt} {h':qh} (hn:n=h.length) (hs:st.heap=h++h') (h1:qam n st.env=true) (h2:zt n h=true):gc n st=⟨st.env,h⟩:=by
 obtain ⟨ev,hp⟩:=st
 simp only at hs h1
 subst hs hn
 unfold gc
 cases h' with
 | nil=>simp
 | cons b h'=>
  have hle:Nat.ble (h++b::h').length h.length=false:=by
   rw [k9]; simp
  simp only [hle,cond_false,List.take_left',h1,h2,Bool.and_self,cond_true]
def qif (h:qh) (x i:Option AVal):Option ORes:=match x,i with
 | some (.str s),some j=>(match idx s.length j with
   | some j=>(match s[j]? with
    | some c=>val h (.int .u8 c.toNat)
    | none=>none)
   | none=>none)
 | _,_=>none
@[go_sem] theorem jaj {x i:qp}:qc p xc h0 al e h (.strIndex x i)=qif h (qf e x) (qf e i):=by
 simp only [qc,qo,qif]
 cases qf e x with
 | none=>rfl
 | some v=>cases v with
  | str s=>cases qf e i <;> rfl
  | _=>cases qf e i <;> rfl
theorem qza {s:List UInt8} {k:IntKind} {i:Nat} {c:UInt8} (hc:s[i]?=some c):qif h (some (.str s)) (some (.int k (i:Int)))=some ⟨.int .u8 c.toNat,false,none,h⟩:=by
 have hl:i < s.length:=(List.getElem?_eq_some_iff.1 hc).1
 have:idx s.length (.int k (i:Int))=some i:=by rw [qdv,qmq hl]
 simp only [qif,this,hc,val]
@[go_sem] theorem jk6 {a b:List UInt8}:zg .eql (.str a) (.str b)=some (.bool (decide (a=b))):=by
 by_cases hab:a=b <;> simp [zg,qhs,hab]
@[go_sem] theorem jll {a b:List UInt8}:zg .neq (.str a) (.str b)=some (.bool (!decide (a=b))):=by
 by_cases hab:a=b <;> simp [zg,qhs,hab]
def qo6 (h0 r:Nat) (h:qh) (x:Option AVal):Option ORes:=match x with
 | some (.str s)=>kf (newBox h0 h r (.iter s 0)) (.ptr (h0 + r) 0)
 | _=>none
@[go_sem] theorem q9f {r:Nat} {s:List UInt8}:qo6 h0 r h (some (.str s))=kf (newBox h0 h r (.iter s 0)) (.ptr (h0 + r) 0):=rfl
@[go_sem] theorem jjv {r:Nat} {x:qp}:qc p xc h0 al e h (.srange r x)=qo6 h0 r h (qf e x):=by
 simp only [qc,qu,qo6]
 cases qf e x with
 | none=>rfl
 | some v=>cases v with
  | str s=>simp only [kf]; cases newBox h0 h r (.iter s 0) <;> rfl
  | _=>rfl
def qfd (h:qh) (b:Nat) (x:Option ABox):Option ORes:=match x with
 | some (.iter s pos)=>bif Nat.blt pos s.length then kf (jo h b (.iter s (pos + (qe s pos).2))) (.tup [.bool true,.int .i64 pos,.int .i32 (qe s pos).1]) else val h (.tup [.bool false])
 | _=>none
theorem q1h {b pos:Nat} {s:List UInt8} (hp:pos < s.length):qfd h b (some (.iter s pos))=kf (jo h b (.iter s (pos + (qe s pos).2))) (.tup [.bool true,.int .i64 pos,.int .i32 (qe s pos).1]):=by
 simp only [qfd,qbu,hp,decide_true,cond_true]
theorem qye {b pos:Nat} {s:List UInt8} (hp:¬ pos < s.length):qfd h b (some (.iter s pos))=some ⟨.tup [.bool false],false,none,h⟩:=by
 simp only [qfd,qbu,hp,decide_false,cond_false,val]
def qru (h0:Nat) (al:Option (List Nat)) (h:qh) (x:Option AVal):Option ORes:=match x with
 | some (.ptr b 0)=>ifR (jx h0 al b) (qfd h b h[b]?)
 | _=>none
@[go_sem] theorem jep {b:Nat}:qru h0 al h (some (.ptr b 0))=ifR (jx h0 al b) (qfd h b h[b]?):=rfl
@[go_sem] theorem jk7 {x:qp}:qc p xc h0 al e h (.snext x)=qru h0 al h (qf e x):=by
 simp only [qc,qu,qru]
 cases qf e x with
 | none=>rfl
 | some v=>cases v with
  | ptr b o=>
   cases o with
   | succ o=>rfl
   | zero=>
    simp only [ifR,zh,qfd,kf]
    cases jx h0 al b with
    | false=>rfl
    | true=>
     simp only [cond_true]
     cases h[b]? with
     | none=>rfl
     | some x=>cases x with
      | iter s pos=>
       simp only []
       cases Nat.blt pos s.length with
       | false=>rfl
       | true=>simp only [cond_true]; cases jo h b (.iter s (pos + (qe s pos).2)) <;> rfl
      | _=>rfl
  | _=>rfl
theorem qk7 {s:List UInt8} {i:Nat} {c:UInt8} (hc:s[i]?=some c) (hl:c.toNat < 128):qe s i=(c.toNat,1):=by
 have hg:(ByteArray.get! ⟨⟨s⟩⟩ (i + 0))=c:=by
  obtain ⟨h1,h2⟩:=List.getElem?_eq_some_iff.1 hc
  simp [ByteArray.get!,h1,h2]
 simp only [qe,Utf8.decode,hg,hl,if_true]
theorem qp9 {s:List UInt8} {i:Nat} {c:UInt8} (hc:s[i]?=some c) (hl:¬ c.toNat < 128):128≤(qe s i).1:=by
 have hg:(ByteArray.get! ⟨⟨s⟩⟩ (i + 0))=c:=by
  obtain ⟨h1,h2⟩:=List.getElem?_eq_some_iff.1 hc
  simp [ByteArray.get!,h1,h2]
 simp only [qe,Utf8.decode,hg,hl,if_false,Utf8.runeError]
 split
 ·split <;> simp <;> omega
 ·split
  ·split
   ·next hh=>simp only [Bool.and_eq_true,decide_eq_true_eq] at hh; simp only; omega
   ·decide
  ·split
   ·split
    ·next hh=>simp only [Bool.and_eq_true,decide_eq_true_eq] at hh; simp only; omega
    ·decide
   ·decide
def qn6 (h:qh) (zero:AVal) (r:Option (Option (Nat × AVal))):Option ORes:=match r with
 | some (some (_,v))=>val h v
 | some none=>val h zero
 | none=>none
@[go_sem] theorem qxo {z v:AVal} {i:Nat}:qn6 h z (some (some (i,v)))=some ⟨v,false,none,h⟩:=rfl
@[go_sem] theorem qxi {z:AVal}:qn6 h z (some none)=some ⟨z,false,none,h⟩:=rfl
def qn4 (h:qh) (kd:Kd) (z kv:AVal) (x:Option ABox):Option ORes:=match x with
 | some (.map es)=>qn6 h z (js kd kv es 0)
 | _=>none
@[go_sem] theorem qyc {kd:Kd} {z kv:AVal} {es:List (AVal × AVal)}:qn4 h kd z kv (some (.map es))=qn6 h z (js kd kv es 0):=rfl
def qpb (h0:Nat) (al:Option (List Nat)) (h:qh) (kd:Kd) (z:AVal) (m k:Option AVal):Option ORes:=match m,k with
 | some (.map b),some kv=>ifR (jx h0 al b) (qn4 h kd z kv h[b]?)
 | some .nilmap,some _=>val h z
 | _,_=>none
@[go_sem] theorem q8f {kd:Kd} {z kv:AVal} {b:Nat}:qpb h0 al h kd z (some (.map b)) (some kv)=ifR (jx h0 al b) (qn4 h kd z kv h[b]?):=rfl
@[go_sem] theorem jh6 {kd:Kd} {z:AVal} {m k:qp}:qc p xc h0 al e h (.lookup kd z false m k)=qpb h0 al h kd z (qf e m) (qf e k):=by
 simp only [qc,zp,qpb]
 cases qf e m with
 | none=>cases qf e k <;> rfl
 | some v=>cases qf e k with
  | none=>cases v <;> rfl
  | some kv=>cases v with
   | map b=>
    simp only [ifR,zh,qn4,qn6]
    cases jx h0 al b with
    | false=>rfl
    | true=>
     simp only [cond_true]
     cases h[b]? with
     | none=>rfl
     | some x=>cases x with
      | map es=>
       simp only []
       cases js kd kv es 0 with
       | none=>rfl
       | some r=>cases r <;> rfl
      | _=>rfl
   | _=>rfl
def qv7 (h:qh) (b:Nat) (es:List (AVal × AVal)) (kv v:AVal) (r:Option (Option (Nat × AVal))):Option ORes:=match r with
 | some (some (i,_))=>kf (jo h b (.map (kw es i v))) .undef
 | some none=>ifR (Nat.ble es.length 1073741824) (kf (jo h b (.map (es++[(kv,v)]))) .undef)
 | none=>none
@[go_sem] theorem qz9 {b:Nat} {es:List (AVal × AVal)} {kv v:AVal}:qv7 h b es kv v (some none)=ifR (Nat.ble es.length 1073741824) (kf (jo h b (.map (es++[(kv,v)]))) .undef):=rfl
def qop (h:qh) (b:Nat) (kd:Kd) (kv v:AVal) (x:Option ABox):Option ORes:=match x with
 | some (.map es)=>qv7 h b es kv v (js kd kv es 0)
 | _=>none
@[go_sem] theorem qtc {b:Nat} {kd:Kd} {kv v:AVal} {es:List (AVal × AVal)}:qop h b kd kv v (some (.map es))=qv7 h b es kv v (js kd kv es 0):=rfl
def q0q (h0:Nat) (al:Option (List Nat)) (h:qh) (kd:Kd) (m k x:Option AVal):Option ORes:=match m,k,x with
 | some (.map b),some kv,some v=>ifR (jx h0 al b) (qop h b kd kv v h[b]?)
 | _,_,_=>none
@[go_sem] theorem jkd {b:Nat} {kd:Kd} {kv v:AVal}:q0q h0 al h kd (some (.map b)) (some kv) (some v)=ifR (jx h0 al b) (qop h b kd kv v h[b]?):=rfl
@[go_sem] theorem q9d {kd:Kd} {m k x:qp}:qc p xc h0 al e h (.mapUpdate kd m k x)=q0q h0 al h kd (qf e m) (qf e k) (qf e x):=by
 simp only [qc,qu,q0q]
 cases qf e m with
 | none=>cases qf e k <;> cases qf e x <;> rfl
 | some v=>cases qf e k with
  | none=>cases v <;> cases qf e x <;> rfl
  | some kv=>cases qf e x with
   | none=>cases v <;> rfl
   | some xv=>cases v with
    | map b=>
     simp only [ifR,zh,qop,qv7,kf]
     cases jx h0 al b with
     | false=>rfl
     | true=>
      simp only [cond_true]
      cases h[b]? with
      | none=>rfl
      | some x=>cases x with
       | map es=>
        simp only []
        cases js kd kv es 0 with
        | none=>rfl
        | some r=>cases r with
         | none=>
          simp only []
          cases Nat.ble es.length 1073741824 with
          | false=>rfl
          | true=>simp only [cond_true]; cases jo h b (.map (es++[(kv,xv)])) <;> rfl
         | some r=>simp only []; cases jo h b (.map (kw es r.1 xv)) <;> rfl
       | _=>rfl
    | _=>rfl
def yk (l:List (List UInt8)):List (AVal × AVal):=l.map fun s=>(.str s,.bool true)
theorem qsc (s:List UInt8):∀ (l:List (List UInt8)) (i:Nat),js .str (.str s) (yk l) i=some (if s∈l then some (i + l.idxOf s,.bool true) else none)
 | [],i=>by simp [yk,js]
 | a::l,i=>by
  show js .str (.str s) ((.str a,.bool true)::yk l) i=_
  simp only [js,ki]
  by_cases hs:s=a
  ·subst hs; simp
  ·have hb:(s == a)=false:=by simp [hs]
   have ha:¬ a=s:=fun hh=>hs hh.symm
   simp only [hb]
   rw [qsc s l (i + 1)]
   by_cases hm:s∈l
   ·have hb':(a == s)=false:=by simp [ha]
    simp [hm,List.idxOf_cons,hb']; omega
   ·simp [hm,hs]
@[go_sem] theorem qmj {s:List UInt8} {l:List (List UInt8)}:js .str (.str s) (yk l) 0=some (if s∈l then some (l.idxOf s,.bool true) else none):=by
 rw [qsc]; simp
theorem qwk (l:List (List UInt8)) (s:List UInt8):yk l++[(.str s,.bool true)]=yk (l++[s]):=by simp [yk]
@[go_sem] theorem qzg {l:List (List UInt8)}:(yk l).length=l.length:=by simp [yk]
def qb5 (agg:Bool) (len sz:Nat) (h:qh) (x i:Option AVal):Option ORes:=match x,i with
  | some (.ptr b o),some j=>(match idx len j with
   | some j=>val h (.ptr b (o + j * sz))
   | none=>none)
  | some (.vptr (.agg cs)),some j=>(match idx len j with
   | some j=>(match part agg cs (j * sz) sz with
    | some v=>bif Bool.xor agg v.isAgg then none else val h (.vptr v)
    | none=>none)
   | none=>none)
  | _,_=>none
@[go_sem] theorem jej {agg:Bool} {len sz:Nat} {x i:qp}:qc p xc h0 al e h (.indexArr agg len sz x i)=qb5 agg len sz h (qf e x) (qf e i):=rfl
end
end Go.Abs
