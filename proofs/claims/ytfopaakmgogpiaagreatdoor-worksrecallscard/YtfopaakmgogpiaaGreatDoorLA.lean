/- The library's functions in the abstract machine. -/
import Derived.Test.YtfopaakmgogpiaaGreatDoorZS
import Derived.Test.YtfopaakmgogpiaaGreatDoorZP
import Derived.Lib.AppendIntMem
import Derived.Test.YtfopaakmgogpiaaGreatDoorG0
set_option linter.unusedVariables false
set_option linter.unusedSimpArgs false
set_option maxRecDepth 100000
open Nat renaming eq_of_beq_eq_true→I,beq→En,le_of_ble_eq_true→Ep,blt→Gc,ble→Ge,blt_eq→Gk
open Bool renaming and_eq_true→Eh,false→Ek,cond_eq_ite→Eu,true→Ga,false_eq_true→Gb
open Option renaming some→Eo,none→Ev
open List renaming length_map→Gf,isPrefixOf→Gh,length_singleton→Gi,cons_append→Gl,mem_map→Gm,map_map→Gn
namespace Go.Z
open Go Go.Abs Go.Proofs Go.RowKit
theorem q41 {C}:∀(l:List ByteArray),aK C (l.map fun s=>.str s.data.toList) (l.map Value.string)
 | []=>.nil
 |s::l=>.cons _ _ _ _ (show bG C (.str s.data.toList) (.string s)from .str _) (q41 l)
theorem q24 {C r}:∀ {ss:List (List UInt8)} {o:Nat},bg C r 1 (ss.map qa.str) o→∀(j:Nat) s,ss[j]?=Eo s→C.K r (o+j)=Eo (.string ⟨⟨s⟩⟩)
 | [],o,_,j,s,hj=>by simp at hj
 |x::ss,o,h,j,s,hj=>by
  cases h with
  |cY _ _ _ _ _ hs hx hr=>
   cases j with
   |zero=>
    simp only[List.getElem?_cons_zero,Eo.injEq]at hj
    subst hj
    cases hx with
    |df _ _ _ _ u hv hu _=>
     rw[Nat.add_zero,hv,bG.bW hu]
   |succ j=>
    have:=q24 hr j s (by simpa using hj)
    rw[show o+(j+1)=o+1+j by omega]
    exact this
theorem Xu {w w'}(h:Below w.heap.size w w'):Ext w w':=⟨h.size,h.block,h.os,h.output⟩
theorem jir {n}(h0:-9223372036854775808≤n)(h1:n≤9223372036854775807):IsoCall Tryz.prog 153 [.int .i64 n] (.str (Lib.itoa n)) Ek:=by
 refine HI fun K w vs ht hk hr=>?_
 cases hr with
 |cons _ _ v vs hx hr=>
  cases hr
  obtain rfl:=bG.bJ hx
  have hg:Tryz.prog.globalNamed nM=Eo 1:=by kernel_rfl
  refine⟨.string ⟨⟨Lib.itoa n⟩⟩,.str _,(Tryz.strconv_Itoa n h0 h1 w (ht.table hg)).mono ?_⟩
  rintro e w' ⟨rfl,k,os,rfl⟩
  exact⟨rfl,Xu (Lib.below_grow w.heap.size w (Nat.le_refl _) k os)⟩
theorem q1s {s c}:IsoCall Tryz.prog 264 [.str s,.int .u8 c] (.int .i64 (Lib.indexByte s c.toNat.toUInt8)) Ek:=by
 refine HI fun K w vs ht hk hr=>?_
 cases hr with
 |cons _ _ v vs hx hr=>
  cases hr with
  |cons _ _ v2 vs ie hr=>
   cases hr
   obtain rfl:=bG.bW hx
   obtain rfl:=bG.bJ ie
   refine⟨_,.int _ _,(Tryz.stringslite_IndexByte ⟨⟨s⟩⟩ c w).mono ?_⟩
   rintro e w' ⟨rfl,rfl⟩
   exact⟨rfl,Ext.refl _⟩
theorem jep {s p}(hs:s.length<4294967281)(hp:1≤p.length):IsoCall Tryz.prog 149 [.str s,.str p] (.list Ek 1 ((Lib.splitB ⟨⟨p⟩⟩ 0 (Lib.countB ⟨⟨s⟩⟩ ⟨⟨p⟩⟩) ⟨⟨s⟩⟩).map fun x=>.str x.data.toList)) Ek:=by
 refine jfl (us:=(Lib.splitB ⟨⟨p⟩⟩ 0 (Lib.countB ⟨⟨s⟩⟩ ⟨⟨p⟩⟩) ⟨⟨s⟩⟩).map Value.string) (t:=9) (fun x hx=>?_) (fun K=>q41 _) (fun u hu=>?_) fun K w vs ht hk hr=>?_
 ·obtain⟨y,_,rfl⟩:=Gm.1 hx;rfl
 ·obtain⟨y,_,rfl⟩:=Gm.1 hu;rfl
 ·cases hr with
  |cons _ _ v vs hx hr=>
   cases hr with
   |cons _ _ v2 vs ie hr=>
    cases hr
    obtain rfl:=bG.bW hx
    obtain rfl:=bG.bW ie
    have hg0:Tryz.prog.globalNamed xy=Eo 0:=by kernel_rfl
    obtain⟨m,hm⟩:=ht.length hg0
    refine(Tryz.strings_Split ⟨⟨s⟩⟩ ⟨⟨p⟩⟩ m w hs hm hp).mono ?_
    rintro e w' ⟨rfl,rfl⟩
    refine⟨?_,rfl⟩
    rw[Gf,Lib.splitB_all ⟨⟨p⟩⟩ hp 0 _ ⟨⟨s⟩⟩ rfl]
theorem jkh {ss p}(bu:ss≠[])(hN:ss.length≤140737488355328)(hlen:(Lib.join ss p).length≤140737488355328):IsoCall Tryz.prog 99 [.list Ek 1 (ss.map .str),.str p] (.str (Lib.join ss p)) Ek:=by
 refine HI fun K w vs ht hk hr=>?_
 cases hr with
 |cons _ _ v vs hx hr=>
  cases hr with
  |cons _ _ v2 vs ie hr=>
   cases hr
   obtain rfl:=bG.bW ie
   have hl:∃r o cap,v=.slice (Eo ⟨r,o,Ev⟩) (ss.map qa.str).length cap∧(ss.map qa.str).length≤cap∧bg (.bL K) r 1 (ss.map .str) o:=by
    generalize hq:ss.map qa.str=q at hx
    cases hx with
    |list _ _ r o cap hl cL=>exact⟨r,o,cap,rfl,hl,cL⟩
    |iW _ a hs=>exact absurd (List.map_eq_nil_iff.1 hq) bu
   obtain⟨r,o,cap,rfl,hcap,cL⟩:=hl
   have lA:(ss.map fun s=>(⟨⟨s⟩⟩:ByteArray)).map (·.data.toList)=ss:=by
    rw[Gn]
    exact List.map_id' _
   have hcells:∀(j:Nat) x,(ss.map fun s=>(⟨⟨s⟩⟩:ByteArray))[j]?=Eo x→w.cell? ⟨r,o+j,Ev⟩=Eo (.string x):=by
    intro j x hj
    rw[List.getElem?_map,Option.map_eq_some_iff]at hj
    obtain⟨s,hs,rfl⟩:=hj
    exact hk _ _ _ (q24 cL j s hs)
   have hbk:r<w.heap.size:=by
    cases xH:ss with
    |nil=>exact absurd xH bu
    |cons s l=>
     have:=hcells 0 ⟨⟨s⟩⟩ (by rw[xH];rfl)
     rcases Nat.lt_or_ge r w.heap.size with h|h
     ·exact h
     ·simp[World.cell?,Array.getElem?_eq_none h]at this
   have hj:=Tryz.strings_Join r o cap (ss.map fun s=>(⟨⟨s⟩⟩:ByteArray)) ⟨⟨p⟩⟩ w hcells hbk (by simpa using hN) (by simpa using hcap) (by rw[lA];exact hlen)
   rw[lA,Gf]at hj
   rw[Gf]
   refine⟨.string ⟨⟨Lib.join ss p⟩⟩,.str _,hj.mono ?_⟩
   rintro e w' ⟨rfl,hb⟩
   exact⟨rfl,Xu hb⟩
theorem jaf {s:List UInt8}{c}(hc:c≤9223372036854775807)(hlen:s.length*c≤140737488355328):IsoCall Tryz.prog 229 [.str s,.int .i64 (c:Int)] (.str (Lib.repeatL s c)) Ek:=by
 refine HI fun K w vs ht hk hr=>?_
 cases hr with
 |cons _ _ v vs hx hr=>
  cases hr with
  |cons _ _ v2 vs ie hr=>
   cases hr
   obtain rfl:=bG.bW hx
   obtain rfl:=bG.bJ ie
   refine⟨.string ⟨⟨Lib.repeatL s c⟩⟩,.str _,(Tryz.strings_Repeat ⟨⟨s⟩⟩ c w hc hlen).mono ?_⟩
   rintro e w' ⟨rfl,hb⟩
   exact⟨rfl,Xu hb⟩
theorem q1t {p}:IsoCall Tryz.prog 99 [.list Ga 0 [],.str p] (.str []) Ek:=by
 refine HI fun K w vs ht hk hr=>?_
 cases hr with
 |cons _ _ v vs hx hr=>
  cases hr with
  |cons _ _ v2 vs ie hr=>
   cases hr
   obtain rfl:=bG.bW ie
   cases hx
   refine⟨.string ⟨#[]⟩,.str _,(Tryz.strings_Join_none _ _ ⟨⟨p⟩⟩ w).mono ?_⟩
   rintro e w' ⟨rfl,rfl⟩
   exact⟨rfl,Ext.refl _⟩
end Go.Z
namespace Go.Z
open Go Go.Abs Go.Proofs
def wI (c:UInt8)(acc:List UInt8):List UInt8→List (List UInt8)
 | []=>[acc]
 |x::t=>if x=c then acc::wI c [] t else wI c (acc++[x]) t
def wJ (c:UInt8)(s:List UInt8):List (List UInt8):=wI c [] s
theorem q7x {c}:∀ {s:List UInt8} {acc:List UInt8},c ∉ s→wI c acc s=[acc++s]
 | [],acc,_=>by simp[wI]
 |x::t,acc,h=>by
  have h1:x≠c:=fun e=>h (by simp[e])
  have h2:c ∉ t:=fun e=>h (by simp[e])
  rw[wI,if_neg h1,q7x h2]
  simp
theorem q77 {c}:∀ {a b acc:List UInt8},c ∉ a→wI c acc (a++c::b)=(acc++a)::wJ c b
 | [],b,acc,_=>by simp[wI,wJ]
 |x::t,b,acc,h=>by
  have h1:x≠c:=fun e=>h (by simp[e])
  have h2:c ∉ t:=fun e=>h (by simp[e])
  rw[Gl,wI,if_neg h1,q77 h2]
  simp
theorem jtw {c s}(h:c ∉ s):wJ c s=[s]:=q7x h
theorem jvu {c a b}(h:c ∉ a):wJ c (a++c::b)=a::wJ c b:=q77 h
theorem jeh (c:UInt8)(s:List UInt8):c ∉ s∨∃a b,s=a++c::b∧c ∉ a:=by
 by_cases h:c∈s
 ·obtain⟨a,b,h1,h2⟩:=List.eq_append_cons_of_mem h
  exact .inr ⟨a,b,h1,h2⟩
 ·exact .inl h
theorem q7k {c:UInt8}{P:List UInt8→Prop}(h0:∀s,c ∉ s→P s)(h1:∀a b,c ∉ a→P b→P (a++c::b)):∀(n:Nat) (s:List UInt8),s.length≤n→P s
 |0,s,hn=>h0 s (by rw[List.length_eq_zero_iff.1 (by omega:s.length=0)];simp)
 |n+1,s,hn=>by
  rcases jeh c s with h|⟨a,b,rfl,h⟩
  ·exact h0 s h
  ·exact h1 a b h (q7k h0 h1 n b (by simp only[List.length_append,List.length_cons]at hn;omega))
theorem q22 {c}:∀ {s:List UInt8},c ∉ s→Lib.index s [c]=-1
 | [],_=>rfl
 |x::t,h=>by
  have h1:x≠c:=fun e=>h (by simp[e])
  have h2:c ∉ t:=fun e=>h (by simp[e])
  have hp:([c]:List UInt8).isPrefixOf (x::t)=Ek:=by simp[Gh,Ne.symm h1]
  rw[Lib.index,hp,q22 h2];rfl
theorem q5n {c}:∀ {a b:List UInt8},c ∉ a→Lib.index (a++c::b) [c]=(a.length:Int)
 | [],b,_=>by simp[Lib.index,Gh]
 |x::t,b,h=>by
  have h1:x≠c:=fun e=>h (by simp[e])
  have h2:c ∉ t:=fun e=>h (by simp[e])
  have hp:([c]:List UInt8).isPrefixOf (x::(t++c::b))=Ek:=by simp[Gh,Ne.symm h1]
  have bu:((t.length:Int) == -1)=Ek:=by simp
  rw[Gl,Lib.index,hp,q5n h2,bu]
  simp
theorem jjq (c:UInt8)(s:List UInt8):Lib.split s [c]=wJ c s:=by
 refine q7k (c:=c) (P:=fun s=>Lib.split s [c]=wJ c s) ?_ ?_ s.length s (Nat.le_refl _)
 ·intro s h
  rw[jtw h,Lib.split,Lib.count_miss (q22 h)];rfl
 ·intro a b h ih
  have hi:=q5n (b:=b) h
  have hd:(a++c::b).drop (a.length+1)=b:=by
   rw[show a++c::b=(a++[c])++b by simp,show a.length+1=(a++[c]).length by simp,List.drop_left]
  have hm:((a.length:Int) == -1)=Ek:=by simp
  rw[jvu h,Lib.split,Lib.count_hit (by simp) hi]
  simp only[Gi,hd,Nat.add_comm 1]
  rw[Lib.splitK,hi,hm]
  simp only[Gb,if_false,Int.toNat_natCast,Nat.add_zero,Gi,hd]
  rw[List.take_left',←ih]; · rfl
  ·rfl
def Jd (c:UInt8):List UInt8→Nat→Int
 | [],_=>-1
 |b::l,n=>bif b == c then(n:Int)else Jd c l (n+1)
theorem q7n (c:UInt8):∀(l:List UInt8) (n:Nat),Jd c l n=if Lib.indexByte l c == -1 then -1 else Lib.indexByte l c+n
 | [],n=>rfl
 |b::l,n=>by
  have uN:=Lib.indexByte_ge l c
  rw[Jd,Lib.indexByte,q7n c l (n+1)]
  cases hb:(b == c)with
  |true=>simp
  |false=>
   simp only[cond_false,Gb,if_false]
   by_cases h:Lib.indexByte l c=-1
   ·simp[h]
   ·have h1:(Lib.indexByte l c == -1)=Ek:=by simpa using h
    have h2:(Lib.indexByte l c+1 == -1)=Ek:=by simp;omega
    simp only[h1,h2,Gb,if_false]
    omega
theorem jde (c:UInt8)(l:List UInt8):Jd c l 0=Lib.indexByte l c:=by
 rw[q7n]
 by_cases h:Lib.indexByte l c=-1
 ·simp[h]
 ·have h1:(Lib.indexByte l c == -1)=Ek:=by simpa using h
  simp[h1]
def Je:Nat→Nat→List UInt8→List UInt8
 |0,_,acc=>acc
 |f+1,u,acc=>bif Gc u 10 then UInt8.ofNat (48+u)::acc else Je f (u / 10) (UInt8.ofNat (48+u % 10)::acc)
theorem q7u:∀ (f u:Nat) (acc:List UInt8),u<10^f→0<f→Je f u acc=Lib.decDigits u++acc
 |0,_,_,_,h=>by omega
 |f+1,u,acc,hu,_=>by
  rw[Je,Lib.decDigits]
  by_cases h:u<10
  ·rw[Gk.mpr h];simp[h]
  ·have hb:Gc u 10=Ek:=by
    cases hh:Gc u 10 with
    |false=>rfl
    |true=>exact absurd (Gk.mp hh) h
   have hf:0<f:=by
    rcases Nat.eq_zero_or_pos f with rfl|h1
    ·simp at hu;omega
    ·exact h1
   rw[hb,dif_neg h]
   simp only[cond_false]
   rw[q7u f (u / 10) _ (by rw[Nat.pow_succ]at hu;omega) hf]
   simp
def Pq:List qa→Option (List (List UInt8))
 | []=>Eo []
 | .str s::l=>match Pq l with
  |some r=>Eo (s::r)
  |none=>Ev
 |_=>Ev
theorem q02:∀ {l:List qa} {r:List (List UInt8)},Pq l=Eo r→l=r.map .str
 | [],r,h=>by cases h;rfl
 | .str s::l,r,h=>by
  simp only[Pq]at h
  split at h
  ·rename_i q hq
   cases h
   rw[q02 hq];rfl
  ·cases h
 | .bool _::_,_,h | .int ..::_,_,h | .list ..::_,_,h | .ms ..::_,_,h | .ptr ..::_,_,h | .ah _::_,_,h | .bN::_,_,h | .map _::_,_,h | .bM::_,_,h | .fn ..::_,_,h | .bX::_,_,h | .agg _::_,_,h | .ay _::_,_,h | .undef::_,_,h | .any::_,_,h | .au ..::_,_,h | .dl ..::_,_,h | .cE _::_,_,h=>by cases h
def Xv:List qa→Option (qa×Bool)
 | [.str s,.int .u8 (.ofNat c)]=>Eo (.int .i64 (Jd (UInt8.ofNat c) s 0),Ek)
 |_=>Ev
def Xw:List qa→Option (qa×Bool)
 | [.str s,.str [c]]=>bif Gc s.length 4294967281 then Eo (.list Ek 1 ((wJ c s).map .str),Ek)else Ev
 |_=>Ev
def t99:List qa→Option (qa×Bool)
 | [.list Ga 0 [],.str _]=>Eo (.str [],Ek)
 | [.list Ek 1 l,.str p]=>match Pq l with
  |some (s::ss)=>bif Ge (s::ss).length 100000&&Ge (p.intercalate (s::ss)).length 100000000 then Eo (.str (p.intercalate (s::ss)),Ek)else Ev
  |_=>Ev
 |_=>Ev
def Jf:List qa→Option (qa×Bool)
 | [.int .i64 (.ofNat n)]=>bif Gc n 1000000000000000000 then Eo (.str (Je 18 n []),Ek)else Ev
 |_=>Ev
def Xx:List qa→Option (qa×Bool)
 | [.str s,.int .i64 (.ofNat c)]=>bif Ge c 100000&&Ge (s.length*c) 100000 then Eo (.str (Lib.repeatL s c),Ek)else Ev
 |_=>Ev
theorem jm2 {args v o}(h:Xv args=Eo (v,o)):IsoCall Tryz.prog 264 args v o:=by
 unfold Xv at h;split at h
 ·rename_i s c
  cases h
  rw[jde]
  exact q1s (s:=s) (c:=Int.ofNat c)
 ·cases h
theorem jos {args v o}(h:Xw args=Eo (v,o)):IsoCall Tryz.prog 149 args v o:=by
 unfold Xw at h;split at h
 ·rename_i s c
  cases hl:Gc s.length 4294967281 with
  |false=>rw[hl]at h;cases h
  |true=>
   rw[hl]at h
   cases h
   have:=jep (s:=s) (p:=[c]) (Gk.mp hl) (by simp)
   have e:(Lib.splitB ⟨⟨[c]⟩⟩ 0 (Lib.countB ⟨⟨s⟩⟩ ⟨⟨[c]⟩⟩) ⟨⟨s⟩⟩).map (fun x=>qa.str x.data.toList)=(wJ c s).map .str:=by
    rw[←jjq]
    have e2:(Lib.splitB ⟨⟨[c]⟩⟩ 0 (Lib.countB ⟨⟨s⟩⟩ ⟨⟨[c]⟩⟩) ⟨⟨s⟩⟩).map (·.data.toList)=Lib.split s [c]:=by
     rw[Lib.splitB_data];rfl
    rw[←e2,Gn];rfl
   rw[e]at this
   exact this
 ·cases h
theorem jv7 {args v o}(h:t99 args=Eo (v,o)):IsoCall Tryz.prog 99 args v o:=by
 unfold t99 at h;split at h
 ·cases h;exact q1t
 ·rename_i l p
  split at h
  ·rename_i s ss hq
   cases hk:(Ge (s::ss).length 100000&&Ge (p.intercalate (s::ss)).length 100000000)with
   |false=>rw[hk]at h;cases h
   |true=>
    rw[hk]at h
    cases h
    simp only[Eh]at hk
    have h1:=Ep hk.1
    have h2:=Ep hk.2
    rw[q02 hq]
    exact jkh (ss:=s::ss) (p:=p) (by simp) (by omega) (by show(p.intercalate (s::ss)).length≤_;omega)
  ·cases h
 ·cases h
theorem q78 {args v o}(h:Jf args=Eo (v,o)):IsoCall Tryz.prog 153 args v o:=by
 unfold Jf at h;split at h
 ·rename_i n
  cases hk:Gc n 1000000000000000000 with
  |false=>rw[hk]at h;cases h
  |true=>
   rw[hk]at h
   cases h
   have hn:=Gk.mp hk
   have:=jir (n:=Int.ofNat n) (by simp<;>omega) (by simp<;>omega)
   have e:Lib.itoa (Int.ofNat n)=Je 18 n []:=by
    rw[q7u 18 n [] (by omega) (by omega),List.append_nil]
    unfold Lib.itoa
    rw[if_neg (by simp)]
    rfl
   rw[e]at this
   exact this
 ·cases h
theorem jnj {args v o}(h:Xx args=Eo (v,o)):IsoCall Tryz.prog 229 args v o:=by
 unfold Xx at h;split at h
 ·rename_i s c
  cases hk:(Ge c 100000&&Ge (s.length*c) 100000)with
  |false=>rw[hk]at h;cases h
  |true=>
   rw[hk]at h
   cases h
   simp only[Eh]at hk
   have h1:=Ep hk.1
   have h2:=Ep hk.2
   exact jaf (s:=s) (c:=c) (by omega) (by omega)
 ·cases h
theorem jbx {k f}(h:Is k f):Abs.Enters Tryz.prog k:=by
 obtain⟨fn,hh,h1,h2⟩:=h
 obtain⟨c,g1,g2,g3,g4,g5⟩:=UM h2
 exact⟨fn,h1,g5,by rw[g1];rfl⟩
theorem uD {k}(h:(tree.find k).isSome=Ga):Abs.Enters Tryz.prog k:=by
 obtain⟨f,hf⟩:=Option.isSome_iff_exists.1 h
 exact jbx (ja.fN all hf)
def TC:Ea:=fun k=>bif En k 264 then Eo Xv else bif En k 149 then Eo Xw else bif En k 99 then Eo t99 else bif En k 153 then Eo Jf else bif En k 229 then Eo Xx else Ev
def Xy (args:List qa)(h:za):Option (qa×Bool×za):=bif zr 0 args then(match Jf args with
 |some (v,_)=>Eo (v,Ek,h)
 |none=>Ev)else Ev
def q7y:jer:=fun k=>bif En k 153 then Eo Xy else Ev
def isL (k:Nat):Bool:=En k 264||En k 149||En k 99||En k 153||En k 229
def br:qr:={ bB:=fun k=>bif isL k then Ev else pr.bB k,cn:=TC,dk:=q7y,maps:=Xz }
theorem jmm {args h v o h'}(hq:Xy args h=Eo (v,o,h')):AA Tryz.prog 153 args h v o h':=by
 unfold Xy at hq
 cases hb:zr 0 args with
 |false=>rw[hb]at hq;cases hq
 |true=>
  rw[hb]at hq
  simp only[cT]at hq
  split at hq
  ·rename_i v' o' ht
   cases hq
   have hv:l5 v=Ga:=by
    unfold Jf at ht;split at ht
    ·rename_i n
     cases hk:Gc n 1000000000000000000 with
     |false=>rw[hk]at ht;cases ht
     |true=>rw[hk]at ht;cases ht;rfl
    ·cases ht
   exact(q78 ht).shr hb hv h
  ·cases hq
theorem TD:∀ (t:List (Nat×List Row)),(t.all fun p=>(tree.find p.1).isSome)=Ga→∀k l,xl t k=Eo l→(tree.find k).isSome=Ga
 |(j,m)::t,h,k,l,hk=>by
  simp only[List.all_cons,Eh]at h
  simp only[xl,Eu]at hk
  split at hk
  ·next hb=>rw[←I hb];exact h.1
  ·exact TD t h.2 k l hk
theorem BL:qw Tryz.prog pr:=okM ok0
theorem bw:qw Tryz.prog br where
 fn:=by
  intro k f hf
  simp only[br,Eu]at hf
  split at hf
  ·cases hf
  ·exact BL.fn k f hf
 gF:=by
  intro k f hf
  simp only[br,TC,Eu]at hf
  split at hf
  ·next hb=>cases hf;obtain rfl:=I hb;exact⟨uD (k:=264) (by kernel_rfl),fun args v o h _ _=>jm2 h⟩
  split at hf
  ·next hb=>cases hf;obtain rfl:=I hb;exact⟨uD (k:=149) (by kernel_rfl),fun args v o h _ _=>jos h⟩
  split at hf
  ·next hb=>cases hf;obtain rfl:=I hb;exact⟨uD (k:=99) (by kernel_rfl),fun args v o h _ _=>jv7 h⟩
  split at hf
  ·next hb=>cases hf;obtain rfl:=I hb;exact⟨uD (k:=153) (by kernel_rfl),fun args v o h _ _=>q78 h⟩
  split at hf
  ·next hb=>cases hf;obtain rfl:=I hb;exact⟨uD (k:=229) (by kernel_rfl),fun args v o h _ _=>jnj h⟩
  ·cases hf
 mixed:=BL.mixed
 fD:=by
  intro k f hf
  simp only[br,q7y,Eu]at hf
  split at hf
  ·next hb=>cases hf;obtain rfl:=I hb;exact⟨uD (k:=153) (by kernel_rfl),fun args h v o h' hq=>jmm hq⟩
  ·cases hf
 maps:=BL.maps
end Go.Z
namespace Go.Z
open Go Go.Abs Go.Proofs
def Fo:qa→qa→Bool
 | .fn (.func a) [] [],.fn (.func b) [] []=>En a b
 | .bX,.bX=>Ga
 | .au a b c,.au a' b' c'=>En a a'&&(En b b'&&En c c')
 | .ptr a b,.ptr a' b'=>En a a'&&En b b'
 |a,b=>iN a b
theorem Pr {a b}(h:Fo a b=Ga):a=b:=by
 unfold Fo at h
 split at h
 ·rw[I h]
 ·rfl
 ·simp only[Eh]at h
  rw[I h.1,I h.2.1,I h.2.2]
 ·simp only[Eh]at h
  rw[I h.1,I h.2]
 ·exact q0r h
def Jg:List qa→List qa→Bool
 | [],[]=>Ga
 |a::l,b::m=>Fo a b&&Jg l m
 |_,_=>Ek
theorem XA:∀ {l m:List qa},Jg l m=Ga→l=m
 | [],[],_=>rfl
 |a::l,b::m,h=>by
  simp only[Jg,Eh]at h
  rw[Pr h.1,XA h.2]
 | [],_::_,h=>by cases h
 |_::_,[],h=>by cases h
def XB:qa→qa→Bool
 | .agg l,.agg m=>Jg l m
 |a,b=>Fo a b
theorem jc3 {a b}(h:XB a b=Ga):a=b:=by
 unfold XB at h
 split at h
 ·rw[XA h]
 ·exact Pr h
def Ps:List (qa×Bool)→List (qa×Bool)→Bool
 | [],[]=>Ga
 |(a,o)::l,(b,q)::m=>Fo a b&&((o == q)&&Ps l m)
 |_,_=>Ek
theorem qxk:∀ {l m:List (qa×Bool)},Ps l m=Ga→l=m
 | [],[],_=>rfl
 |(a,o)::l,(b,q)::m,h=>by
  simp only[Ps,Eh,beq_iff_eq]at h
  rw[Pr h.1,h.2.1,qxk h.2.2]
 | [],_::_,h=>by cases h
 |_::_,[],h=>by cases h
def Pt:List (qa×qa)→List (qa×qa)→Bool
 | [],[]=>Ga
 |(a,o)::l,(b,q)::m=>Fo a b&&(XB o q&&Pt l m)
 |_,_=>Ek
theorem qwp:∀ {l m:List (qa×qa)},Pt l m=Ga→l=m
 | [],[],_=>rfl
 |(a,o)::l,(b,q)::m,h=>by
  simp only[Pt,Eh]at h
  rw[Pr h.1,jc3 h.2.1,qwp h.2.2]
 | [],_::_,h=>by cases h
 |_::_,[],h=>by cases h
def XD:qn→qn→Bool
 | .hole,.hole=>Ga
 | .dead,.dead=>Ga
 | .cells l,.cells m=>Ps l m
 | .map l,.map m=>Pt l m
 | .vec a b l,.vec a' b' m=>En a a'&&(En b b'&&uY l m)
 |_,_=>Ek
theorem jaq {a b}(h:XD a b=Ga):a=b:=by
 unfold XD at h
 split at h
 ·rfl
 ·rfl
 ·rw[qxk h]
 ·rw[qwp h]
 ·simp only[Eh]at h
  rw[I h.1,I h.2.1,EK h.2.2]
 ·cases h
def Pu:za→za→Bool
 | [],[]=>Ga
 |a::l,b::m=>XD a b&&Pu l m
 |_,_=>Ek
theorem qxr:∀ {l m:za},Pu l m=Ga→l=m
 | [],[],_=>rfl
 |a::l,b::m,h=>by
  simp only[Pu,Eh]at h
  rw[jaq h.1,qxr h.2]
 | [],_::_,h=>by cases h
 |_::_,[],h=>by cases h
abbrev dM:=List qa×za×qa×Bool×za
def Nu (args:List qa)(h:za):List dM→Option (qa×Bool×za)
 | []=>Ev
 |r::l=>bif Jg args r.1&&Pu h r.2.1 then Eo r.2.2 else Nu args h l
theorem q01 {args h x}:∀ {l:List dM},Nu args h l=Eo x→(args,h,x)∈l
 | [],h=>by cases h
 |r::l,hx=>by
  simp only[Nu,Eu]at hx
  split at hx
  ·next hb=>
   simp only[Eh]at hb
   cases hx
   rw[XA hb.1,qxr hb.2]
   exact List.mem_cons_self ..
  ·exact List.mem_cons_of_mem _ (q01 hx)
def TE (P:Program)(k:Nat):List dM→Prop
 | []=>True
 |r::l=>AA P k r.1 r.2.1 r.2.2.1 r.2.2.2.1 r.2.2.2.2∧TE P k l
theorem q32 {P k}:∀ {l:List dM},TE P k l→∀r∈l,AA P k r.1 r.2.1 r.2.2.1 r.2.2.2.1 r.2.2.2.2
 |r::l,h,x,hx=>by
  cases hx with
  |head=>exact h.1
  |tail _ hx=>exact q32 h.2 x hx
theorem yo {P p}(hp:qw P p){n k args h h' v o}(hr:ze p (hZ p n) k args h=Eo (v,o,h')):AA P k args h v o h':=
 (GU hp (cg.Hs (Oi hp n).1) (by rw[←Oo];exact hr)).2
end Go.Z
