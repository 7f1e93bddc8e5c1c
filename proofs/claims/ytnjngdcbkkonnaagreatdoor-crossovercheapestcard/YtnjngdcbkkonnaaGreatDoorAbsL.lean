/- Equations of the executor, third part. -/
import Derived.Test.YtnjngdcbkkonnaaGreatDoorAbsJ
set_option linter.unusedVariables false
set_option linter.unusedSimpArgs false
namespace Go.Abs
section
variable {p:jl} {xc:XC} {h0:Nat} {al:Option (List Nat)} {e:Env} {h:qk} {α:Type}
def jja {γ δ:Type} (En:γ→jb × ASt) (Ex:δ→jb × ASt):γ ⊕ δ→jb × ASt
 | .inl s=>En s
 | .inr d=>Ex d
@[simp] theorem jv4 {γ δ:Type} {En:γ→jb × ASt} {Ex:δ→jb × ASt} {s:γ}:jja En Ex (.inl s)=En s:=rfl
@[simp] theorem jxz {γ δ:Type} {En:γ→jb × ASt} {Ex:δ→jb × ASt} {s:δ}:jja En Ex (.inr s)=Ex s:=rfl
def qeb {α γ δ:Type} (p:jl) (c:ACode) (St:Nat→γ→ASt) (g:Nat→γ→α→γ ⊕ δ) (Ex:δ→jb × ASt) (Inv:Nat→γ→Prop) (i:Nat) (s:γ) (x:α):Prop:=
 match g i s x with
 | .inl s'=>Inv (i + 1) s'∧∃ st',X p c (St i s)=some (.normal,st')∧gc (St i s).heap.length st'=St (i + 1) s'
 | .inr d=>X p c (St i s)=some (Ex d)
theorem q6o {c:ACode} {n:Nat} {r:jb × ASt} (hr:r.1 ≠ .normal):qkb p c n (some r)=some r:=by
 obtain ⟨x,st⟩:=r
 cases x with
 | normal=>exact absurd rfl hr
 | ret=>rfl
 | exit id=>rfl
theorem qrm {n:Nat} {st:ASt} {h':qk} (hn:n=h.length) (hs:st.heap=h++h') (h1:yy n st.env=true) (h2:ju n h=true):gc n st=⟨st.env,h⟩:=by
 obtain ⟨ev,hp⟩:=st
 simp only at hs h1
 subst hs hn
 unfold gc
 cases h' with
 | nil=>simp
 | cons b h'=>
  have hle:Nat.ble (h++b::h').length h.length=false:=by
   rw [qae]; simp
  simp only [hle,cond_false,List.take_left',h1,h2,Bool.and_self,cond_true]
def qlp (h:qk) (x i:Option AVal):Option ORes:=match x,i with
 | some (.str s),some j=>(match idx s.length j with
   | some j=>(match s[j]? with
    | some c=>val h (.int .u8 c.toNat)
    | none=>none)
   | none=>none)
 | _,_=>none
@[go_sem] theorem jpk {x i:qv}:qe p xc h0 al e h (.strIndex x i)=qlp h (qj e x) (qj e i):=by
 simp only [qe,qr,qlp]
 cases qj e x with
 | none=>rfl
 | some v=>cases v with
  | str s=>cases qj e i <;> rfl
  | _=>cases qj e i <;> rfl
theorem q6z {s:List UInt8} {k:IntKind} {i:Nat} {c:UInt8} (hc:s[i]?=some c):qlp h (some (.str s)) (some (.int k (i:Int)))=some ⟨.int .u8 c.toNat,false,none,h⟩:=by
 have hl:i < s.length:=(List.getElem?_eq_some_iff.1 hc).1
 have:idx s.length (.int k (i:Int))=some i:=by rw [qcp,qnb hl]
 simp only [qlp,this,hc,val]
@[go_sem] theorem jzc {a b:List UInt8}:zp .eql (.str a) (.str b)=some (.bool (decide (a=b))):=by
 by_cases hab:a=b <;> simp [zp,ql2,hab]
@[go_sem] theorem jys {a b:List UInt8}:zp .neq (.str a) (.str b)=some (.bool (!decide (a=b))):=by
 by_cases hab:a=b <;> simp [zp,ql2,hab]
def qvh (h0 r:Nat) (h:qk) (x:Option AVal):Option ORes:=match x with
 | some (.str s)=>qaa (newBox h0 h r (.iter s 0)) (.ptr (h0 + r) 0)
 | _=>none
@[go_sem] theorem jk3 {r:Nat} {s:List UInt8}:qvh h0 r h (some (.str s))=qaa (newBox h0 h r (.iter s 0)) (.ptr (h0 + r) 0):=rfl
@[go_sem] theorem jw4 {r:Nat} {x:qv}:qe p xc h0 al e h (.srange r x)=qvh h0 r h (qj e x):=by
 simp only [qe,qx,qvh]
 cases qj e x with
 | none=>rfl
 | some v=>cases v with
  | str s=>simp only [qaa]; cases newBox h0 h r (.iter s 0) <;> rfl
  | _=>rfl
def qh3 (h:qk) (b:Nat) (x:Option ABox):Option ORes:=match x with
 | some (.iter s pos)=>bif Nat.blt pos s.length then qaa (jw h b (.iter s (pos + (qp s pos).2))) (.tup [.bool true,.int .i64 pos,.int .i32 (qp s pos).1]) else val h (.tup [.bool false])
 | _=>none
theorem jai {b pos:Nat} {s:List UInt8} (hp:pos < s.length):qh3 h b (some (.iter s pos))=qaa (jw h b (.iter s (pos + (qp s pos).2))) (.tup [.bool true,.int .i64 pos,.int .i32 (qp s pos).1]):=by
 simp only [qh3,qbm,hp,decide_true,cond_true]
theorem q73 {b pos:Nat} {s:List UInt8} (hp:¬ pos < s.length):qh3 h b (some (.iter s pos))=some ⟨.tup [.bool false],false,none,h⟩:=by
 simp only [qh3,qbm,hp,decide_false,cond_false,val]
def q0f (h0:Nat) (al:Option (List Nat)) (h:qk) (x:Option AVal):Option ORes:=match x with
 | some (.ptr b 0)=>ifR (j6 h0 al b) (qh3 h b h[b]?)
 | _=>none
@[go_sem] theorem jqy {b:Nat}:q0f h0 al h (some (.ptr b 0))=ifR (j6 h0 al b) (qh3 h b h[b]?):=rfl
@[go_sem] theorem jy6 {x:qv}:qe p xc h0 al e h (.snext x)=q0f h0 al h (qj e x):=by
 simp only [qe,qx,q0f]
 cases qj e x with
 | none=>rfl
 | some v=>cases v with
  | ptr b o=>
   cases o with
   | succ o=>rfl
   | zero=>
    simp only [ifR,yd,qh3,qaa]
    cases j6 h0 al b with
    | false=>rfl
    | true=>
     simp only [cond_true]
     cases h[b]? with
     | none=>rfl
     | some x=>cases x with
      | iter s pos=>
       simp only []
       cases Nat.blt pos s.length with
       | false=>rfl
       | true=>simp only [cond_true]; cases jw h b (.iter s (pos + (qp s pos).2)) <;> rfl
      | _=>rfl
  | _=>rfl
theorem q6m {s:List UInt8} {i:Nat} {c:UInt8} (hc:s[i]?=some c) (hl:c.toNat < 128):qp s i=(c.toNat,1):=by
 have hg:(ByteArray.get! ⟨⟨s⟩⟩ (i + 0))=c:=by
  obtain ⟨h1,h2⟩:=List.getElem?_eq_some_iff.1 hc
  simp [ByteArray.get!,h1,h2]
 simp only [qp,Utf8.decode,hg,hl,if_true]
theorem q7v {s:List UInt8} {i:Nat} {c:UInt8} (hc:s[i]?=some c) (hl:¬ c.toNat < 128):128≤(qp s i).1:=by
 have hg:(ByteArray.get! ⟨⟨s⟩⟩ (i + 0))=c:=by
  obtain ⟨h1,h2⟩:=List.getElem?_eq_some_iff.1 hc
  simp [ByteArray.get!,h1,h2]
 simp only [qp,Utf8.decode,hg,hl,if_false,Utf8.runeError]
 split
 ·split <;> simp <;> omega
 ·split
  ·split
   ·next hh=>simp only [Bool.and_eq_true,decide_eq_true_eq] at hh; simp only; omega
   ·decide
  ·split
   ·split
    ·next hh=>simp only [Bool.and_eq_true,decide_eq_true_eq] at hh; simp only; omega
    ·decide
   ·decide
def que (h:qk) (zero:AVal) (r:Option (Option (Nat × AVal))):Option ORes:=match r with
 | some (some (_,v))=>val h v
 | some none=>val h zero
 | none=>none
@[go_sem] theorem q5c {z v:AVal} {i:Nat}:que h z (some (some (i,v)))=some ⟨v,false,none,h⟩:=rfl
@[go_sem] theorem q4w {z:AVal}:que h z (some none)=some ⟨z,false,none,h⟩:=rfl
def qub (h:qk) (kd:Kd) (z kv:AVal) (x:Option ABox):Option ORes:=match x with
 | some (.map es)=>que h z (j0 kd kv es 0)
 | _=>none
@[go_sem] theorem q5p {kd:Kd} {z kv:AVal} {es:List (AVal × AVal)}:qub h kd z kv (some (.map es))=que h z (j0 kd kv es 0):=rfl
def qwf (h0:Nat) (al:Option (List Nat)) (h:qk) (kd:Kd) (z:AVal) (m k:Option AVal):Option ORes:=match m,k with
 | some (.map b),some kv=>ifR (j6 h0 al b) (qub h kd z kv h[b]?)
 | some .nilmap,some _=>val h z
 | _,_=>none
@[go_sem] theorem jky {kd:Kd} {z kv:AVal} {b:Nat}:qwf h0 al h kd z (some (.map b)) (some kv)=ifR (j6 h0 al b) (qub h kd z kv h[b]?):=rfl
@[go_sem] theorem jwo {kd:Kd} {z:AVal} {m k:qv}:qe p xc h0 al e h (.lookup kd z false m k)=qwf h0 al h kd z (qj e m) (qj e k):=by
 simp only [qe,yl,qwf]
 cases qj e m with
 | none=>cases qj e k <;> rfl
 | some v=>cases qj e k with
  | none=>cases v <;> rfl
  | some kv=>cases v with
   | map b=>
    simp only [ifR,yd,qub,que]
    cases j6 h0 al b with
    | false=>rfl
    | true=>
     simp only [cond_true]
     cases h[b]? with
     | none=>rfl
     | some x=>cases x with
      | map es=>
       simp only []
       cases j0 kd kv es 0 with
       | none=>rfl
       | some r=>cases r <;> rfl
      | _=>rfl
   | _=>rfl
def q4r (h:qk) (b:Nat) (es:List (AVal × AVal)) (kv v:AVal) (r:Option (Option (Nat × AVal))):Option ORes:=match r with
 | some (some (i,_))=>qaa (jw h b (.map (qaq es i v))) .undef
 | some none=>ifR (Nat.ble es.length 1073741824) (qaa (jw h b (.map (es++[(kv,v)]))) .undef)
 | none=>none
@[go_sem] theorem q5x {b:Nat} {es:List (AVal × AVal)} {kv v:AVal}:q4r h b es kv v (some none)=ifR (Nat.ble es.length 1073741824) (qaa (jw h b (.map (es++[(kv,v)]))) .undef):=rfl
def qwc (h:qk) (b:Nat) (kd:Kd) (kv v:AVal) (x:Option ABox):Option ORes:=match x with
 | some (.map es)=>q4r h b es kv v (j0 kd kv es 0)
 | _=>none
@[go_sem] theorem qy1 {b:Nat} {kd:Kd} {kv v:AVal} {es:List (AVal × AVal)}:qwc h b kd kv v (some (.map es))=q4r h b es kv v (j0 kd kv es 0):=rfl
def jag (h0:Nat) (al:Option (List Nat)) (h:qk) (kd:Kd) (m k x:Option AVal):Option ORes:=match m,k,x with
 | some (.map b),some kv,some v=>ifR (j6 h0 al b) (qwc h b kd kv v h[b]?)
 | _,_,_=>none
@[go_sem] theorem jui {b:Nat} {kd:Kd} {kv v:AVal}:jag h0 al h kd (some (.map b)) (some kv) (some v)=ifR (j6 h0 al b) (qwc h b kd kv v h[b]?):=rfl
@[go_sem] theorem jj5 {kd:Kd} {m k x:qv}:qe p xc h0 al e h (.mapUpdate kd m k x)=jag h0 al h kd (qj e m) (qj e k) (qj e x):=by
 simp only [qe,qx,jag]
 cases qj e m with
 | none=>cases qj e k <;> cases qj e x <;> rfl
 | some v=>cases qj e k with
  | none=>cases v <;> cases qj e x <;> rfl
  | some kv=>cases qj e x with
   | none=>cases v <;> rfl
   | some xv=>cases v with
    | map b=>
     simp only [ifR,yd,qwc,q4r,qaa]
     cases j6 h0 al b with
     | false=>rfl
     | true=>
      simp only [cond_true]
      cases h[b]? with
      | none=>rfl
      | some x=>cases x with
       | map es=>
        simp only []
        cases j0 kd kv es 0 with
        | none=>rfl
        | some r=>cases r with
         | none=>
          simp only []
          cases Nat.ble es.length 1073741824 with
          | false=>rfl
          | true=>simp only [cond_true]; cases jw h b (.map (es++[(kv,xv)])) <;> rfl
         | some r=>simp only []; cases jw h b (.map (qaq es r.1 xv)) <;> rfl
       | _=>rfl
    | _=>rfl
def qaf (l:List (List UInt8)):List (AVal × AVal):=l.map fun s=>(.str s,.bool true)
theorem qyy (s:List UInt8):∀ (l:List (List UInt8)) (i:Nat),j0 .str (.str s) (qaf l) i=some (if s∈l then some (i + l.idxOf s,.bool true) else none)
 | [],i=>by simp [qaf,j0]
 | a::l,i=>by
  show j0 .str (.str s) ((.str a,.bool true)::qaf l) i=_
  simp only [j0,qak]
  by_cases hs:s=a
  ·subst hs; simp
  ·have hb:(s == a)=false:=by simp [hs]
   have ha:¬ a=s:=fun hh=>hs hh.symm
   simp only [hb]
   rw [qyy s l (i + 1)]
   by_cases hm:s∈l
   ·have hb':(a == s)=false:=by simp [ha]
    simp [hm,List.idxOf_cons,hb']; omega
   ·simp [hm,hs]
@[go_sem] theorem qsr {s:List UInt8} {l:List (List UInt8)}:j0 .str (.str s) (qaf l) 0=some (if s∈l then some (l.idxOf s,.bool true) else none):=by
 rw [qyy]; simp
theorem q5m (l:List (List UInt8)) (s:List UInt8):qaf l++[(.str s,.bool true)]=qaf (l++[s]):=by simp [qaf]
@[go_sem] theorem q6s {l:List (List UInt8)}:(qaf l).length=l.length:=by simp [qaf]
def qc9 (agg:Bool) (len sz:Nat) (h:qk) (x i:Option AVal):Option ORes:=match x,i with
  | some (.ptr b o),some j=>(match idx len j with
   | some j=>val h (.ptr b (o + j * sz))
   | none=>none)
  | some (.vptr (.agg cs)),some j=>(match idx len j with
   | some j=>(match part agg cs (j * sz) sz with
    | some v=>bif Bool.xor agg v.isAgg then none else val h (.vptr v)
    | none=>none)
   | none=>none)
  | _,_=>none
@[go_sem] theorem jqs {agg:Bool} {len sz:Nat} {x i:qv}:qe p xc h0 al e h (.indexArr agg len sz x i)=qc9 agg len sz h (qj e x) (qj e i):=rfl
end
end Go.Abs
