/- Equations of the executor, third part. -/
import Derived.Test.YtnjngdcbkkonnaaGreatDoorAbsJ
set_option linter.unusedVariables false
set_option linter.unusedSimpArgs false
namespace Go.Abs
section
variable {p:jm} {xc:XC} {h0:Nat} {al:Option (List Nat)} {e:Env} {h:qm} {α:Type}
def q7p {γ δ:Type} (En:γ→je × ASt) (Ex:δ→je × ASt):γ ⊕ δ→je × ASt
 | .inl s=>En s
 | .inr d=>Ex d
@[simp] theorem jjh {γ δ:Type} {En:γ→je × ASt} {Ex:δ→je × ASt} {s:γ}:q7p En Ex (.inl s)=En s:=rfl
@[simp] theorem jk9 {γ δ:Type} {En:γ→je × ASt} {Ex:δ→je × ASt} {s:δ}:q7p En Ex (.inr s)=Ex s:=rfl
theorem qzj {c:ACode} {n:Nat} {r:je × ASt} (hr:r.1 ≠ .normal):ql2 p c n (some r)=some r:=by
 obtain ⟨x,st⟩:=r
 cases x with
 | normal=>exact absurd rfl hr
 | ret=>rfl
 | exit id=>rfl
theorem kn {n:Nat} {st:ASt} {h':qm} (hn:n=h.length) (hs:st.heap=h++h') (h1:qan n st.env=true) (h2:z7 n h=true):gc n st=⟨st.env,h⟩:=by
 obtain ⟨ev,hp⟩:=st
 simp only at hs h1
 subst hs hn
 unfold gc
 cases h' with
 | nil=>simp
 | cons b h'=>
  have hle:Nat.ble (h++b::h').length h.length=false:=by
   rw [kw]; simp
  simp only [hle,cond_false,List.take_left',h1,h2,Bool.and_self,cond_true]
def qi3 (h:qm) (x i:Option AVal):Option ORes:=match x,i with
 | some (.str s),some j=>(match idx s.length j with
   | some j=>(match s[j]? with
    | some c=>val h (.int .u8 c.toNat)
    | none=>none)
   | none=>none)
 | _,_=>none
@[go_sem] theorem jai {x i:qr}:qc p xc h0 al e h (.strIndex x i)=qi3 h (qh e x) (qh e i):=by
 simp only [qc,qp,qi3]
 cases qh e x with
 | none=>rfl
 | some v=>cases v with
  | str s=>cases qh e i <;> rfl
  | _=>cases qh e i <;> rfl
theorem qy2 {s:List UInt8} {k:IntKind} {i:Nat} {c:UInt8} (hc:s[i]?=some c):qi3 h (some (.str s)) (some (.int k (i:Int)))=some ⟨.int .u8 c.toNat,false,none,h⟩:=by
 have hl:i < s.length:=(List.getElem?_eq_some_iff.1 hc).1
 have:idx s.length (.int k (i:Int))=some i:=by rw [qd6,qni hl]
 simp only [qi3,this,hc,val]
@[go_sem] theorem jmt {a b:List UInt8}:zd .eql (.str a) (.str b)=some (.bool (decide (a=b))):=by
 by_cases hab:a=b <;> simp [zd,qi4,hab]
@[go_sem] theorem jmg {a b:List UInt8}:zd .neq (.str a) (.str b)=some (.bool (!decide (a=b))):=by
 by_cases hab:a=b <;> simp [zd,qi4,hab]
def qpz (h0 r:Nat) (h:qm) (x:Option AVal):Option ORes:=match x with
 | some (.str s)=>kl (newBox h0 h r (.iter s 0)) (.ptr (h0 + r) 0)
 | _=>none
@[go_sem] theorem q93 {r:Nat} {s:List UInt8}:qpz h0 r h (some (.str s))=kl (newBox h0 h r (.iter s 0)) (.ptr (h0 + r) 0):=rfl
@[go_sem] theorem jl3 {r:Nat} {x:qr}:qc p xc h0 al e h (.srange r x)=qpz h0 r h (qh e x):=by
 simp only [qc,qu,qpz]
 cases qh e x with
 | none=>rfl
 | some v=>cases v with
  | str s=>simp only [kl]; cases newBox h0 h r (.iter s 0) <;> rfl
  | _=>rfl
def qfs (h:qm) (b:Nat) (x:Option ABox):Option ORes:=match x with
 | some (.iter s pos)=>bif Nat.blt pos s.length then kl (jq h b (.iter s (pos + (qe s pos).2))) (.tup [.bool true,.int .i64 pos,.int .i32 (qe s pos).1]) else val h (.tup [.bool false])
 | _=>none
theorem q2q {b pos:Nat} {s:List UInt8} (hp:pos < s.length):qfs h b (some (.iter s pos))=kl (jq h b (.iter s (pos + (qe s pos).2))) (.tup [.bool true,.int .i64 pos,.int .i32 (qe s pos).1]):=by
 simp only [qfs,qbx,hp,decide_true,cond_true]
theorem q0l {b pos:Nat} {s:List UInt8} (hp:¬ pos < s.length):qfs h b (some (.iter s pos))=some ⟨.tup [.bool false],false,none,h⟩:=by
 simp only [qfs,qbx,hp,decide_false,cond_false,val]
def qt5 (h0:Nat) (al:Option (List Nat)) (h:qm) (x:Option AVal):Option ORes:=match x with
 | some (.ptr b 0)=>ifR (jx h0 al b) (qfs h b h[b]?)
 | _=>none
@[go_sem] theorem jc0 {b:Nat}:qt5 h0 al h (some (.ptr b 0))=ifR (jx h0 al b) (qfs h b h[b]?):=rfl
@[go_sem] theorem jmo {x:qr}:qc p xc h0 al e h (.snext x)=qt5 h0 al h (qh e x):=by
 simp only [qc,qu,qt5]
 cases qh e x with
 | none=>rfl
 | some v=>cases v with
  | ptr b o=>
   cases o with
   | succ o=>rfl
   | zero=>
    simp only [ifR,zk,qfs,kl]
    cases jx h0 al b with
    | false=>rfl
    | true=>
     simp only [cond_true]
     cases h[b]? with
     | none=>rfl
     | some x=>cases x with
      | iter s pos=>
       simp only []
       cases Nat.blt pos s.length with
       | false=>rfl
       | true=>simp only [cond_true]; cases jq h b (.iter s (pos + (qe s pos).2)) <;> rfl
      | _=>rfl
  | _=>rfl
theorem qk7 {s:List UInt8} {i:Nat} {c:UInt8} (hc:s[i]?=some c) (hl:c.toNat < 128):qe s i=(c.toNat,1):=by
 have hg:(ByteArray.get! ⟨⟨s⟩⟩ (i + 0))=c:=by
  obtain ⟨h1,h2⟩:=List.getElem?_eq_some_iff.1 hc
  simp [ByteArray.get!,h1,h2]
 simp only [qe,Utf8.decode,hg,hl,if_true]
theorem qqi {s:List UInt8} {i:Nat} {c:UInt8} (hc:s[i]?=some c) (hl:¬ c.toNat < 128):128≤(qe s i).1:=by
 have hg:(ByteArray.get! ⟨⟨s⟩⟩ (i + 0))=c:=by
  obtain ⟨h1,h2⟩:=List.getElem?_eq_some_iff.1 hc
  simp [ByteArray.get!,h1,h2]
 simp only [qe,Utf8.decode,hg,hl,if_false,Utf8.runeError]
 split
 ·split <;> simp <;> omega
 ·split
  ·split
   ·next hh=>simp only [Bool.and_eq_true,decide_eq_true_eq] at hh; simp only; omega
   ·decide
  ·split
   ·split
    ·next hh=>simp only [Bool.and_eq_true,decide_eq_true_eq] at hh; simp only; omega
    ·decide
   ·decide
def qo3 (h:qm) (zero:AVal) (r:Option (Option (Nat × AVal))):Option ORes:=match r with
 | some (some (_,v))=>val h v
 | some none=>val h zero
 | none=>none
@[go_sem] theorem qyg {z v:AVal} {i:Nat}:qo3 h z (some (some (i,v)))=some ⟨v,false,none,h⟩:=rfl
@[go_sem] theorem qx4 {z:AVal}:qo3 h z (some none)=some ⟨z,false,none,h⟩:=rfl
def qn2 (h:qm) (kd:Kd) (z kv:AVal) (x:Option ABox):Option ORes:=match x with
 | some (.map es)=>qo3 h z (jt kd kv es 0)
 | _=>none
@[go_sem] theorem q01 {kd:Kd} {z kv:AVal} {es:List (AVal × AVal)}:qn2 h kd z kv (some (.map es))=qo3 h z (jt kd kv es 0):=rfl
def qpf (h0:Nat) (al:Option (List Nat)) (h:qm) (kd:Kd) (z:AVal) (m k:Option AVal):Option ORes:=match m,k with
 | some (.map b),some kv=>ifR (jx h0 al b) (qn2 h kd z kv h[b]?)
 | some .nilmap,some _=>val h z
 | _,_=>none
@[go_sem] theorem q88 {kd:Kd} {z kv:AVal} {b:Nat}:qpf h0 al h kd z (some (.map b)) (some kv)=ifR (jx h0 al b) (qn2 h kd z kv h[b]?):=rfl
@[go_sem] theorem jkf {kd:Kd} {z:AVal} {m k:qr}:qc p xc h0 al e h (.lookup kd z false m k)=qpf h0 al h kd z (qh e m) (qh e k):=by
 simp only [qc,zu,qpf]
 cases qh e m with
 | none=>cases qh e k <;> rfl
 | some v=>cases qh e k with
  | none=>cases v <;> rfl
  | some kv=>cases v with
   | map b=>
    simp only [ifR,zk,qn2,qo3]
    cases jx h0 al b with
    | false=>rfl
    | true=>
     simp only [cond_true]
     cases h[b]? with
     | none=>rfl
     | some x=>cases x with
      | map es=>
       simp only []
       cases jt kd kv es 0 with
       | none=>rfl
       | some r=>cases r <;> rfl
      | _=>rfl
   | _=>rfl
def qyb (h:qm) (b:Nat) (es:List (AVal × AVal)) (kv v:AVal) (r:Option (Option (Nat × AVal))):Option ORes:=match r with
 | some (some (i,_))=>kl (jq h b (.map (ku es i v))) .undef
 | some none=>ifR (Nat.ble es.length 1073741824) (kl (jq h b (.map (es++[(kv,v)]))) .undef)
 | none=>none
@[go_sem] theorem qyz {b:Nat} {es:List (AVal × AVal)} {kv v:AVal}:qyb h b es kv v (some none)=ifR (Nat.ble es.length 1073741824) (kl (jq h b (.map (es++[(kv,v)]))) .undef):=rfl
def qph (h:qm) (b:Nat) (kd:Kd) (kv v:AVal) (x:Option ABox):Option ORes:=match x with
 | some (.map es)=>qyb h b es kv v (jt kd kv es 0)
 | _=>none
@[go_sem] theorem qsq {b:Nat} {kd:Kd} {kv v:AVal} {es:List (AVal × AVal)}:qph h b kd kv v (some (.map es))=qyb h b es kv v (jt kd kv es 0):=rfl
def q1e (h0:Nat) (al:Option (List Nat)) (h:qm) (kd:Kd) (m k x:Option AVal):Option ORes:=match m,k,x with
 | some (.map b),some kv,some v=>ifR (jx h0 al b) (qph h b kd kv v h[b]?)
 | _,_,_=>none
@[go_sem] theorem jj1 {b:Nat} {kd:Kd} {kv v:AVal}:q1e h0 al h kd (some (.map b)) (some kv) (some v)=ifR (jx h0 al b) (qph h b kd kv v h[b]?):=rfl
@[go_sem] theorem q9c {kd:Kd} {m k x:qr}:qc p xc h0 al e h (.mapUpdate kd m k x)=q1e h0 al h kd (qh e m) (qh e k) (qh e x):=by
 simp only [qc,qu,q1e]
 cases qh e m with
 | none=>cases qh e k <;> cases qh e x <;> rfl
 | some v=>cases qh e k with
  | none=>cases v <;> cases qh e x <;> rfl
  | some kv=>cases qh e x with
   | none=>cases v <;> rfl
   | some xv=>cases v with
    | map b=>
     simp only [ifR,zk,qph,qyb,kl]
     cases jx h0 al b with
     | false=>rfl
     | true=>
      simp only [cond_true]
      cases h[b]? with
      | none=>rfl
      | some x=>cases x with
       | map es=>
        simp only []
        cases jt kd kv es 0 with
        | none=>rfl
        | some r=>cases r with
         | none=>
          simp only []
          cases Nat.ble es.length 1073741824 with
          | false=>rfl
          | true=>simp only [cond_true]; cases jq h b (.map (es++[(kv,xv)])) <;> rfl
         | some r=>simp only []; cases jq h b (.map (ku es r.1 xv)) <;> rfl
       | _=>rfl
    | _=>rfl
def yl (l:List (List UInt8)):List (AVal × AVal):=l.map fun s=>(.str s,.bool true)
theorem qs5 (s:List UInt8):∀ (l:List (List UInt8)) (i:Nat),jt .str (.str s) (yl l) i=some (if s∈l then some (i + l.idxOf s,.bool true) else none)
 | [],i=>by simp [yl,jt]
 | a::l,i=>by
  show jt .str (.str s) ((.str a,.bool true)::yl l) i=_
  simp only [jt,ki]
  by_cases hs:s=a
  ·subst hs; simp
  ·have hb:(s == a)=false:=by simp [hs]
   have ha:¬ a=s:=fun hh=>hs hh.symm
   simp only [hb]
   rw [qs5 s l (i + 1)]
   by_cases hm:s∈l
   ·have hb':(a == s)=false:=by simp [ha]
    simp [hm,List.idxOf_cons,hb']; omega
   ·simp [hm,hs]
@[go_sem] theorem qna {s:List UInt8} {l:List (List UInt8)}:jt .str (.str s) (yl l) 0=some (if s∈l then some (l.idxOf s,.bool true) else none):=by
 rw [qs5]; simp
theorem qwx (l:List (List UInt8)) (s:List UInt8):yl l++[(.str s,.bool true)]=yl (l++[s]):=by simp [yl]
@[go_sem] theorem qzi {l:List (List UInt8)}:(yl l).length=l.length:=by simp [yl]
def qcc (agg:Bool) (len sz:Nat) (h:qm) (x i:Option AVal):Option ORes:=match x,i with
  | some (.ptr b o),some j=>(match idx len j with
   | some j=>val h (.ptr b (o + j * sz))
   | none=>none)
  | some (.vptr (.agg cs)),some j=>(match idx len j with
   | some j=>(match part agg cs (j * sz) sz with
    | some v=>bif Bool.xor agg v.isAgg then none else val h (.vptr v)
    | none=>none)
   | none=>none)
  | _,_=>none
@[go_sem] theorem jcs {agg:Bool} {len sz:Nat} {x i:qr}:qc p xc h0 al e h (.indexArr agg len sz x i)=qcc agg len sz h (qh e x) (qh e i):=rfl
end
end Go.Abs
