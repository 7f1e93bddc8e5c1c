/- The library's functions in the abstract machine. -/
import Derived.Test.YtfopaakmgogpiaaGreatDoorZS
import Derived.Test.YtfopaakmgogpiaaGreatDoorZP
import Derived.Lib.AppendIntMem
import Derived.Test.YtfopaakmgogpiaaGreatDoorG0
set_option maxRecDepth 100000
open Nat renaming eq_of_beq_eq_true→I,beq→E2,le_of_ble_eq_true→E4,blt→Gn,ble→Gp,blt_eq→Hb
open Bool renaming and_eq_true→En,false→E1,cond_eq_ite→E6,true→Gl,false_eq_true→Gm
open Option renaming some→E3,none→Gk
open List renaming length_map→Gq,isPrefixOf→G2,length_singleton→Ha,cons_append→Hd,mem_map→H7,map_map→If
namespace Go.Z
open Go Go.Abs Go.Proofs Go.RowKit
theorem q2w {C:ay}:∀(l:List ByteArray),aM C (l.map fun s=>.str s.data.toList) (l.map Value.string)
 | []=>.nil
 |s::l=>.cons _ _ _ _ (show bD C (.str s.data.toList) (.string s)from .str _) (q2w l)
theorem q22 {C:ay}{r:Nat}:∀ {ss:List (List UInt8)} {o:Nat},aY C r 1 (ss.map qa.str) o→∀(j:Nat) s,ss[j]?=E3 s→C.K r (o+j)=E3 (.string ⟨⟨s⟩⟩)
 | [],o,_,j,s,hj=>by simp at hj
 |x::ss,o,h,j,s,hj=>by
  cases h with
  |cY _ _ _ _ _ hs hx hr=>
   cases j with
   |zero=>
    simp only[List.getElem?_cons_zero,E3.injEq]at hj
    subst hj
    cases hx with
    |dc _ _ _ _ u hv hu _=>
     rw[Nat.add_zero,hv,bD.bW hu]
   |succ j=>
    have:=q22 hr j s (by simpa using hj)
    rw[show o+(j+1)=o+1+j by omega]
    exact this
theorem VW {w w':World}(h:Below w.heap.size w w'):Ext w w':=⟨h.size,h.block,h.os,h.output⟩
theorem jfk {n:Int}(h0:-9223372036854775808≤n)(h1:n≤9223372036854775807):IsoCall Tryz.prog 153 [.int .i64 n] (.str (Lib.itoa n)) E1:=by
 refine F9 fun K w vs ht hk hr=>?_
 cases hr with
 |cons _ _ v vs hx hr=>
  cases hr
  obtain rfl:=bD.bF hx
  have hg:Tryz.prog.globalNamed nv=E3 1:=by kernel_rfl
  refine⟨.string ⟨⟨Lib.itoa n⟩⟩,.str _,(Tryz.strconv_Itoa n h0 h1 w (ht.table hg)).mono ?_⟩
  rintro e w' ⟨rfl,k,os,rfl⟩
  exact⟨rfl,VW (Lib.below_grow w.heap.size w (Nat.le_refl _) k os)⟩
theorem q1a {s:List UInt8}{c:Int}:IsoCall Tryz.prog 264 [.str s,.int .u8 c] (.int .i64 (Lib.indexByte s c.toNat.toUInt8)) E1:=by
 refine F9 fun K w vs ht hk hr=>?_
 cases hr with
 |cons _ _ v vs hx hr=>
  cases hr with
  |cons _ _ v2 vs ic hr=>
   cases hr
   obtain rfl:=bD.bW hx
   obtain rfl:=bD.bF ic
   refine⟨_,.int _ _,(Tryz.stringslite_IndexByte ⟨⟨s⟩⟩ c w).mono ?_⟩
   rintro e w' ⟨rfl,rfl⟩
   exact⟨rfl,Ext.refl _⟩
theorem jc2 {s p:List UInt8}(hs:s.length<4294967281)(hp:1≤p.length):IsoCall Tryz.prog 149 [.str s,.str p] (.list E1 1 ((Lib.splitB ⟨⟨p⟩⟩ 0 (Lib.countB ⟨⟨s⟩⟩ ⟨⟨p⟩⟩) ⟨⟨s⟩⟩).map fun x=>.str x.data.toList)) E1:=by
 refine jd0 (us:=(Lib.splitB ⟨⟨p⟩⟩ 0 (Lib.countB ⟨⟨s⟩⟩ ⟨⟨p⟩⟩) ⟨⟨s⟩⟩).map Value.string) (t:=9) (fun x hx=>?_) (fun K=>q2w _) (fun u hu=>?_) fun K w vs ht hk hr=>?_
 ·obtain⟨y,_,rfl⟩:=H7.1 hx;rfl
 ·obtain⟨y,_,rfl⟩:=H7.1 hu;rfl
 ·cases hr with
  |cons _ _ v vs hx hr=>
   cases hr with
   |cons _ _ v2 vs ic hr=>
    cases hr
    obtain rfl:=bD.bW hx
    obtain rfl:=bD.bW ic
    have hg0:Tryz.prog.globalNamed wF=E3 0:=by kernel_rfl
    obtain⟨m,hm⟩:=ht.length hg0
    refine(Tryz.strings_Split ⟨⟨s⟩⟩ ⟨⟨p⟩⟩ m w hs hm hp).mono ?_
    rintro e w' ⟨rfl,rfl⟩
    refine⟨?_,rfl⟩
    rw[Gq,Lib.splitB_all ⟨⟨p⟩⟩ hp 0 _ ⟨⟨s⟩⟩ rfl]
theorem jfn {ss:List (List UInt8)}{p:List UInt8}(bw:ss≠[])(hN:ss.length≤140737488355328)(hlen:(Lib.join ss p).length≤140737488355328):IsoCall Tryz.prog 99 [.list E1 1 (ss.map .str),.str p] (.str (Lib.join ss p)) E1:=by
 refine F9 fun K w vs ht hk hr=>?_
 cases hr with
 |cons _ _ v vs hx hr=>
  cases hr with
  |cons _ _ v2 vs ic hr=>
   cases hr
   obtain rfl:=bD.bW ic
   have hl:∃r o cap,v=.slice (E3 ⟨r,o,Gk⟩) (ss.map qa.str).length cap∧(ss.map qa.str).length≤cap∧aY (.bK K) r 1 (ss.map .str) o:=by
    generalize hq:ss.map qa.str=q at hx
    cases hx with
    |list _ _ r o cap hl cL=>exact⟨r,o,cap,rfl,hl,cL⟩
    |iI _ a hs=>exact absurd (List.map_eq_nil_iff.1 hq) bw
   obtain⟨r,o,cap,rfl,hcap,cL⟩:=hl
   have la:(ss.map fun s=>(⟨⟨s⟩⟩:ByteArray)).map (·.data.toList)=ss:=by
    rw[If]
    exact List.map_id' _
   have hcells:∀(j:Nat) x,(ss.map fun s=>(⟨⟨s⟩⟩:ByteArray))[j]?=E3 x→w.cell? ⟨r,o+j,Gk⟩=E3 (.string x):=by
    intro j x hj
    rw[List.getElem?_map,Option.map_eq_some_iff]at hj
    obtain⟨s,hs,rfl⟩:=hj
    exact hk _ _ _ (q22 cL j s hs)
   have hbk:r<w.heap.size:=by
    cases wM:ss with
    |nil=>exact absurd wM bw
    |cons s l=>
     have:=hcells 0 ⟨⟨s⟩⟩ (by rw[wM];rfl)
     rcases Nat.lt_or_ge r w.heap.size with h|h
     ·exact h
     ·simp[World.cell?,Array.getElem?_eq_none h]at this
   have hj:=Tryz.strings_Join r o cap (ss.map fun s=>(⟨⟨s⟩⟩:ByteArray)) ⟨⟨p⟩⟩ w hcells hbk (by simpa using hN) (by simpa using hcap) (by rw[la];exact hlen)
   rw[la,Gq]at hj
   rw[Gq]
   refine⟨.string ⟨⟨Lib.join ss p⟩⟩,.str _,hj.mono ?_⟩
   rintro e w' ⟨rfl,hb⟩
   exact⟨rfl,VW hb⟩
theorem q98 {s:List UInt8}{c:Nat}(hc:c≤9223372036854775807)(hlen:s.length*c≤140737488355328):IsoCall Tryz.prog 229 [.str s,.int .i64 (c:Int)] (.str (Lib.repeatL s c)) E1:=by
 refine F9 fun K w vs ht hk hr=>?_
 cases hr with
 |cons _ _ v vs hx hr=>
  cases hr with
  |cons _ _ v2 vs ic hr=>
   cases hr
   obtain rfl:=bD.bW hx
   obtain rfl:=bD.bF ic
   refine⟨.string ⟨⟨Lib.repeatL s c⟩⟩,.str _,(Tryz.strings_Repeat ⟨⟨s⟩⟩ c w hc hlen).mono ?_⟩
   rintro e w' ⟨rfl,hb⟩
   exact⟨rfl,VW hb⟩
theorem q09 {p:List UInt8}:IsoCall Tryz.prog 99 [.list Gl 0 [],.str p] (.str []) E1:=by
 refine F9 fun K w vs ht hk hr=>?_
 cases hr with
 |cons _ _ v vs hx hr=>
  cases hr with
  |cons _ _ v2 vs ic hr=>
   cases hr
   obtain rfl:=bD.bW ic
   cases hx
   refine⟨.string ⟨#[]⟩,.str _,(Tryz.strings_Join_none _ _ ⟨⟨p⟩⟩ w).mono ?_⟩
   rintro e w' ⟨rfl,rfl⟩
   exact⟨rfl,Ext.refl _⟩
end Go.Z
namespace Go.Z
open Go Go.Abs Go.Proofs
def vH (c:UInt8)(acc:List UInt8):List UInt8→List (List UInt8)
 | []=>[acc]
 |x::t=>if x=c then acc::vH c [] t else vH c (acc++[x]) t
def vI (c:UInt8)(s:List UInt8):List (List UInt8):=vH c [] s
theorem q6p {c:UInt8}:∀ {s:List UInt8} {acc:List UInt8},c ∉ s→vH c acc s=[acc++s]
 | [],acc,_=>by simp[vH]
 |x::t,acc,h=>by
  have h1:x≠c:=fun e=>h (by simp[e])
  have h2:c ∉ t:=fun e=>h (by simp[e])
  rw[vH,if_neg h1,q6p h2]
  simp
theorem q69 {c:UInt8}:∀ {a b acc:List UInt8},c ∉ a→vH c acc (a++c::b)=(acc++a)::vI c b
 | [],b,acc,_=>by simp[vH,vI]
 |x::t,b,acc,h=>by
  have h1:x≠c:=fun e=>h (by simp[e])
  have h2:c ∉ t:=fun e=>h (by simp[e])
  rw[Hd,vH,if_neg h1,q69 h2]
  simp
theorem ju0 {c:UInt8}{s:List UInt8}(h:c ∉ s):vI c s=[s]:=q6p h
theorem jow {c:UInt8}{a b:List UInt8}(h:c ∉ a):vI c (a++c::b)=a::vI c b:=q69 h
theorem ja2 (c:UInt8)(s:List UInt8):c ∉ s∨∃a b,s=a++c::b∧c ∉ a:=by
 by_cases h:c∈s
 ·obtain⟨a,b,h1,h2⟩:=List.eq_append_cons_of_mem h
  exact .inr ⟨a,b,h1,h2⟩
 ·exact .inl h
theorem q6g {c:UInt8}{P:List UInt8→Prop}(h0:∀s,c ∉ s→P s)(h1:∀a b,c ∉ a→P b→P (a++c::b)):∀(n:Nat) (s:List UInt8),s.length≤n→P s
 |0,s,hn=>h0 s (by rw[List.length_eq_zero_iff.1 (by omega:s.length=0)];simp)
 |n+1,s,hn=>by
  rcases ja2 c s with h|⟨a,b,rfl,h⟩
  ·exact h0 s h
  ·exact h1 a b h (q6g h0 h1 n b (by simp only[List.length_append,List.length_cons]at hn;omega))
theorem q4t {c:UInt8}:∀ {s:List UInt8},c ∉ s→Lib.index s [c]=-1
 | [],_=>rfl
 |x::t,h=>by
  have h1:x≠c:=fun e=>h (by simp[e])
  have h2:c ∉ t:=fun e=>h (by simp[e])
  have hp:([c]:List UInt8).isPrefixOf (x::t)=E1:=by simp[G2,Ne.symm h1]
  rw[Lib.index,hp,q4t h2];rfl
theorem q43 {c:UInt8}:∀ {a b:List UInt8},c ∉ a→Lib.index (a++c::b) [c]=(a.length:Int)
 | [],b,_=>by simp[Lib.index,G2]
 |x::t,b,h=>by
  have h1:x≠c:=fun e=>h (by simp[e])
  have h2:c ∉ t:=fun e=>h (by simp[e])
  have hp:([c]:List UInt8).isPrefixOf (x::(t++c::b))=E1:=by simp[G2,Ne.symm h1]
  have bw:((t.length:Int) == -1)=E1:=by simp
  rw[Hd,Lib.index,hp,q43 h2,bw]
  simp
theorem je3 (c:UInt8)(s:List UInt8):Lib.split s [c]=vI c s:=by
 refine q6g (c:=c) (P:=fun s=>Lib.split s [c]=vI c s) ?_ ?_ s.length s (Nat.le_refl _)
 ·intro s h
  rw[ju0 h,Lib.split,Lib.count_miss (q4t h)];rfl
 ·intro a b h ih
  have hi:=q43 (b:=b) h
  have hd:(a++c::b).drop (a.length+1)=b:=by
   rw[show a++c::b=(a++[c])++b by simp,show a.length+1=(a++[c]).length by simp,List.drop_left]
  have hm:((a.length:Int) == -1)=E1:=by simp
  rw[jow h,Lib.split,Lib.count_hit (by simp) hi]
  simp only[Ha,hd,Nat.add_comm 1]
  rw[Lib.splitK,hi,hm]
  simp only[Gm,if_false,Int.toNat_natCast,Nat.add_zero,Ha,hd]
  rw[List.take_left',←ih]; · rfl
  ·rfl
def Hr (c:UInt8):List UInt8→Nat→Int
 | [],_=>-1
 |b::l,n=>bif b == c then(n:Int)else Hr c l (n+1)
theorem q60 (c:UInt8):∀(l:List UInt8) (n:Nat),Hr c l n=if Lib.indexByte l c == -1 then -1 else Lib.indexByte l c+n
 | [],n=>rfl
 |b::l,n=>by
  have ub:=Lib.indexByte_ge l c
  rw[Hr,Lib.indexByte,q60 c l (n+1)]
  cases hb:(b == c)with
  |true=>simp
  |false=>
   simp only[cond_false,Gm,if_false]
   by_cases h:Lib.indexByte l c=-1
   ·simp[h]
   ·have h1:(Lib.indexByte l c == -1)=E1:=by simpa using h
    have h2:(Lib.indexByte l c+1 == -1)=E1:=by simp;omega
    simp only[h1,h2,Gm,if_false]
    omega
theorem jb8 (c:UInt8)(l:List UInt8):Hr c l 0=Lib.indexByte l c:=by
 rw[q60]
 by_cases h:Lib.indexByte l c=-1
 ·simp[h]
 ·have h1:(Lib.indexByte l c == -1)=E1:=by simpa using h
  simp[h1]
def Hs:Nat→Nat→List UInt8→List UInt8
 |0,_,acc=>acc
 |f+1,u,acc=>bif Gn u 10 then UInt8.ofNat (48+u)::acc else Hs f (u / 10) (UInt8.ofNat (48+u % 10)::acc)
theorem q6o:∀ (f u:Nat) (acc:List UInt8),u<10^f→0<f→Hs f u acc=Lib.decDigits u++acc
 |0,_,_,_,h=>by omega
 |f+1,u,acc,hu,_=>by
  rw[Hs,Lib.decDigits]
  by_cases h:u<10
  ·rw[Hb.mpr h];simp[h]
  ·have hb:Gn u 10=E1:=by
    cases hh:Gn u 10 with
    |false=>rfl
    |true=>exact absurd (Hb.mp hh) h
   have hf:0<f:=by
    rcases Nat.eq_zero_or_pos f with rfl|h1
    ·simp at hu;omega
    ·exact h1
   rw[hb,dif_neg h]
   simp only[cond_false]
   rw[q6o f (u / 10) _ (by rw[Nat.pow_succ]at hu;omega) hf]
   simp
def NI:List qa→Option (List (List UInt8))
 | []=>E3 []
 | .str s::l=>match NI l with
  |some r=>E3 (s::r)
  |none=>Gk
 |_=>Gk
theorem q0r:∀ {l:List qa} {r:List (List UInt8)},NI l=E3 r→l=r.map .str
 | [],r,h=>by cases h;rfl
 | .str s::l,r,h=>by
  simp only[NI]at h
  split at h
  ·rename_i q hq
   cases h
   rw[q0r hq];rfl
  ·cases h
 | .bool _::_,_,h | .int ..::_,_,h | .list ..::_,_,h | .ms ..::_,_,h | .ptr ..::_,_,h | .ah _::_,_,h | .bN::_,_,h | .map _::_,_,h | .bM::_,_,h | .fn ..::_,_,h | .bX::_,_,h | .agg _::_,_,h | .aC _::_,_,h | .undef::_,_,h | .any::_,_,h | .ak ..::_,_,h | .dq ..::_,_,h | .cE _::_,_,h=>by cases h
def VX:List qa→Option (qa×Bool)
 | [.str s,.int .u8 (.ofNat c)]=>E3 (.int .i64 (Hr (UInt8.ofNat c) s 0),E1)
 |_=>Gk
def VY:List qa→Option (qa×Bool)
 | [.str s,.str [c]]=>bif Gn s.length 4294967281 then E3 (.list E1 1 ((vI c s).map .str),E1)else Gk
 |_=>Gk
def t99:List qa→Option (qa×Bool)
 | [.list Gl 0 [],.str _]=>E3 (.str [],E1)
 | [.list E1 1 l,.str p]=>match NI l with
  |some (s::ss)=>bif Gp (s::ss).length 100000&&Gp (p.intercalate (s::ss)).length 100000000 then E3 (.str (p.intercalate (s::ss)),E1)else Gk
  |_=>Gk
 |_=>Gk
def Ht:List qa→Option (qa×Bool)
 | [.int .i64 (.ofNat n)]=>bif Gn n 1000000000000000000 then E3 (.str (Hs 18 n []),E1)else Gk
 |_=>Gk
def VZ:List qa→Option (qa×Bool)
 | [.str s,.int .i64 (.ofNat c)]=>bif Gp c 100000&&Gp (s.length*c) 100000 then E3 (.str (Lib.repeatL s c),E1)else Gk
 |_=>Gk
theorem jlv {args:List qa}{v:qa}{o:Bool}(h:VX args=E3 (v,o)):IsoCall Tryz.prog 264 args v o:=by
 unfold VX at h;split at h
 ·rename_i s c
  cases h
  rw[jb8]
  exact q1a (s:=s) (c:=Int.ofNat c)
 ·cases h
theorem jne {args:List qa}{v:qa}{o:Bool}(h:VY args=E3 (v,o)):IsoCall Tryz.prog 149 args v o:=by
 unfold VY at h;split at h
 ·rename_i s c
  cases hl:Gn s.length 4294967281 with
  |false=>rw[hl]at h;cases h
  |true=>
   rw[hl]at h
   cases h
   have:=jc2 (s:=s) (p:=[c]) (Hb.mp hl) (by simp)
   have e:(Lib.splitB ⟨⟨[c]⟩⟩ 0 (Lib.countB ⟨⟨s⟩⟩ ⟨⟨[c]⟩⟩) ⟨⟨s⟩⟩).map (fun x=>qa.str x.data.toList)=(vI c s).map .str:=by
    rw[←je3]
    have e2:(Lib.splitB ⟨⟨[c]⟩⟩ 0 (Lib.countB ⟨⟨s⟩⟩ ⟨⟨[c]⟩⟩) ⟨⟨s⟩⟩).map (·.data.toList)=Lib.split s [c]:=by
     rw[Lib.splitB_data];rfl
    rw[←e2,If];rfl
   rw[e]at this
   exact this
 ·cases h
theorem jsf {args:List qa}{v:qa}{o:Bool}(h:t99 args=E3 (v,o)):IsoCall Tryz.prog 99 args v o:=by
 unfold t99 at h;split at h
 ·cases h;exact q09
 ·rename_i l p
  split at h
  ·rename_i s ss hq
   cases hk:(Gp (s::ss).length 100000&&Gp (p.intercalate (s::ss)).length 100000000)with
   |false=>rw[hk]at h;cases h
   |true=>
    rw[hk]at h
    cases h
    simp only[En]at hk
    have h1:=E4 hk.1
    have h2:=E4 hk.2
    rw[q0r hq]
    exact jfn (ss:=s::ss) (p:=p) (by simp) (by omega) (by show(p.intercalate (s::ss)).length≤_;omega)
  ·cases h
 ·cases h
theorem q68 {args:List qa}{v:qa}{o:Bool}(h:Ht args=E3 (v,o)):IsoCall Tryz.prog 153 args v o:=by
 unfold Ht at h;split at h
 ·rename_i n
  cases hk:Gn n 1000000000000000000 with
  |false=>rw[hk]at h;cases h
  |true=>
   rw[hk]at h
   cases h
   have hn:=Hb.mp hk
   have:=jfk (n:=Int.ofNat n) (by simp<;>omega) (by simp<;>omega)
   have e:Lib.itoa (Int.ofNat n)=Hs 18 n []:=by
    rw[q6o 18 n [] (by omega) (by omega),List.append_nil]
    unfold Lib.itoa
    rw[if_neg (by simp)]
    rfl
   rw[e]at this
   exact this
 ·cases h
theorem jlx {args:List qa}{v:qa}{o:Bool}(h:VZ args=E3 (v,o)):IsoCall Tryz.prog 229 args v o:=by
 unfold VZ at h;split at h
 ·rename_i s c
  cases hk:(Gp c 100000&&Gp (s.length*c) 100000)with
  |false=>rw[hk]at h;cases h
  |true=>
   rw[hk]at h
   cases h
   simp only[En]at hk
   have h1:=E4 hk.1
   have h2:=E4 hk.2
   exact q98 (s:=s) (c:=c) (by omega) (by omega)
 ·cases h
theorem jcn {k:Nat}{f:qd}(h:Is k f):Abs.Enters Tryz.prog k:=by
 obtain⟨fn,hh,h1,h2⟩:=h
 obtain⟨c,g1,g2,g3,g4,g5⟩:=S6 h2
 exact⟨fn,h1,g5,by rw[g1];rfl⟩
theorem tP {k:Nat}(h:(tree.find k).isSome=Gl):Abs.Enters Tryz.prog k:=by
 obtain⟨f,hf⟩:=Option.isSome_iff_exists.1 h
 exact jcn (jc.fJ all hf)
def RQ:uX:=fun k=>bif E2 k 264 then E3 VX else bif E2 k 149 then E3 VY else bif E2 k 99 then E3 t99 else bif E2 k 153 then E3 Ht else bif E2 k 229 then E3 VZ else Gk
def V0 (args:List qa)(h:j8):Option (qa×Bool×j8):=bif zw 0 args then(match Ht args with
 |some (v,_)=>E3 (v,E1,h)
 |none=>Gk)else Gk
def q67:jck:=fun k=>bif E2 k 153 then E3 V0 else Gk
def isL (k:Nat):Bool:=E2 k 264||E2 k 149||E2 k 99||E2 k 153||E2 k 229
def bq:qt:={ bL:=fun k=>bif isL k then Gk else pr.bL k,cm:=RQ,di:=q67,maps:=V1 }
theorem jk7 {args:List qa}{h:j8}{v:qa}{o:Bool}{h':j8}(hq:V0 args h=E3 (v,o,h')):zI Tryz.prog 153 args h v o h':=by
 unfold V0 at hq
 cases hb:zw 0 args with
 |false=>rw[hb]at hq;cases hq
 |true=>
  rw[hb]at hq
  simp only[cT]at hq
  split at hq
  ·rename_i v' o' ht
   cases hq
   have hv:lM v=Gl:=by
    unfold Ht at ht;split at ht
    ·rename_i n
     cases hk:Gn n 1000000000000000000 with
     |false=>rw[hk]at ht;cases ht
     |true=>rw[hk]at ht;cases ht;rfl
    ·cases ht
   exact(q68 ht).shr hb hv h
  ·cases hq
theorem RR:∀ (t:List (Nat×List Row)),(t.all fun p=>(tree.find p.1).isSome)=Gl→∀k l,wu t k=E3 l→(tree.find k).isSome=Gl
 |(j,m)::t,h,k,l,hk=>by
  simp only[List.all_cons,En]at h
  simp only[wu,E6]at hk
  split at hk
  ·next hb=>rw[←I hb];exact h.1
  ·exact RR t h.2 k l hk
theorem AW:qx Tryz.prog pr:=okM ok0
theorem br:qx Tryz.prog bq where
 fn:=by
  intro k f hf
  simp only[bq,E6]at hf
  split at hf
  ·cases hf
  ·exact AW.fn k f hf
 gF:=by
  intro k f hf
  simp only[bq,RQ,E6]at hf
  split at hf
  ·next hb=>cases hf;obtain rfl:=I hb;exact⟨tP (k:=264) (by kernel_rfl),fun args v o h _ _=>jlv h⟩
  split at hf
  ·next hb=>cases hf;obtain rfl:=I hb;exact⟨tP (k:=149) (by kernel_rfl),fun args v o h _ _=>jne h⟩
  split at hf
  ·next hb=>cases hf;obtain rfl:=I hb;exact⟨tP (k:=99) (by kernel_rfl),fun args v o h _ _=>jsf h⟩
  split at hf
  ·next hb=>cases hf;obtain rfl:=I hb;exact⟨tP (k:=153) (by kernel_rfl),fun args v o h _ _=>q68 h⟩
  split at hf
  ·next hb=>cases hf;obtain rfl:=I hb;exact⟨tP (k:=229) (by kernel_rfl),fun args v o h _ _=>jlx h⟩
  ·cases hf
 mixed:=AW.mixed
 fA:=by
  intro k f hf
  simp only[bq,q67,E6]at hf
  split at hf
  ·next hb=>cases hf;obtain rfl:=I hb;exact⟨tP (k:=153) (by kernel_rfl),fun args h v o h' hq=>jk7 hq⟩
  ·cases hf
 maps:=AW.maps
end Go.Z
namespace Go.Z
open Go Go.Abs Go.Proofs
def D4:qa→qa→Bool
 | .fn (.func a) [] [],.fn (.func b) [] []=>E2 a b
 | .bX,.bX=>Gl
 | .ak a b c,.ak a' b' c'=>E2 a a'&&(E2 b b'&&E2 c c')
 | .ptr a b,.ptr a' b'=>E2 a a'&&E2 b b'
 |a,b=>iE a b
theorem NJ {a b:qa}(h:D4 a b=Gl):a=b:=by
 unfold D4 at h
 split at h
 ·rw[I h]
 ·rfl
 ·simp only[En]at h
  rw[I h.1,I h.2.1,I h.2.2]
 ·simp only[En]at h
  rw[I h.1,I h.2]
 ·exact q0w h
def Hu:List qa→List qa→Bool
 | [],[]=>Gl
 |a::l,b::m=>D4 a b&&Hu l m
 |_,_=>E1
theorem V2:∀ {l m:List qa},Hu l m=Gl→l=m
 | [],[],_=>rfl
 |a::l,b::m,h=>by
  simp only[Hu,En]at h
  rw[NJ h.1,V2 h.2]
 | [],_::_,h=>by cases h
 |_::_,[],h=>by cases h
def V3:qa→qa→Bool
 | .agg l,.agg m=>Hu l m
 |a,b=>D4 a b
theorem jbv {a b:qa}(h:V3 a b=Gl):a=b:=by
 unfold V3 at h
 split at h
 ·rw[V2 h]
 ·exact NJ h
def NK:List (qa×Bool)→List (qa×Bool)→Bool
 | [],[]=>Gl
 |(a,o)::l,(b,q)::m=>D4 a b&&((o == q)&&NK l m)
 |_,_=>E1
theorem qvj:∀ {l m:List (qa×Bool)},NK l m=Gl→l=m
 | [],[],_=>rfl
 |(a,o)::l,(b,q)::m,h=>by
  simp only[NK,En,beq_iff_eq]at h
  rw[NJ h.1,h.2.1,qvj h.2.2]
 | [],_::_,h=>by cases h
 |_::_,[],h=>by cases h
def NL:List (qa×qa)→List (qa×qa)→Bool
 | [],[]=>Gl
 |(a,o)::l,(b,q)::m=>D4 a b&&(V3 o q&&NL l m)
 |_,_=>E1
theorem qx5:∀ {l m:List (qa×qa)},NL l m=Gl→l=m
 | [],[],_=>rfl
 |(a,o)::l,(b,q)::m,h=>by
  simp only[NL,En]at h
  rw[NJ h.1,jbv h.2.1,qx5 h.2.2]
 | [],_::_,h=>by cases h
 |_::_,[],h=>by cases h
def V4:qn→qn→Bool
 | .hole,.hole=>Gl
 | .dead,.dead=>Gl
 | .cells l,.cells m=>NK l m
 | .map l,.map m=>NL l m
 | .vec a b l,.vec a' b' m=>E2 a a'&&(E2 b b'&&uo l m)
 |_,_=>E1
theorem q84 {a b:qn}(h:V4 a b=Gl):a=b:=by
 unfold V4 at h
 split at h
 ·rfl
 ·rfl
 ·rw[qvj h]
 ·rw[qx5 h]
 ·simp only[En]at h
  rw[I h.1,I h.2.1,Dv h.2.2]
 ·cases h
def NM:j8→j8→Bool
 | [],[]=>Gl
 |a::l,b::m=>V4 a b&&NM l m
 |_,_=>E1
theorem qye:∀ {l m:j8},NM l m=Gl→l=m
 | [],[],_=>rfl
 |a::l,b::m,h=>by
  simp only[NM,En]at h
  rw[q84 h.1,qye h.2]
 | [],_::_,h=>by cases h
 |_::_,[],h=>by cases h
abbrev dH:=List qa×j8×qa×Bool×j8
def LW (args:List qa)(h:j8):List dH→Option (qa×Bool×j8)
 | []=>Gk
 |r::l=>bif Hu args r.1&&NM h r.2.1 then E3 r.2.2 else LW args h l
theorem q0j {args:List qa}{h:j8}{x:qa×Bool×j8}:∀ {l:List dH},LW args h l=E3 x→(args,h,x)∈l
 | [],h=>by cases h
 |r::l,hx=>by
  simp only[LW,E6]at hx
  split at hx
  ·next hb=>
   simp only[En]at hb
   cases hx
   rw[V2 hb.1,qye hb.2]
   exact List.mem_cons_self ..
  ·exact List.mem_cons_of_mem _ (q0j hx)
def RS (P:Program)(k:Nat):List dH→Prop
 | []=>True
 |r::l=>zI P k r.1 r.2.1 r.2.2.1 r.2.2.2.1 r.2.2.2.2∧RS P k l
theorem q46 {P:Program}{k:Nat}:∀ {l:List dH},RS P k l→∀r∈l,zI P k r.1 r.2.1 r.2.2.1 r.2.2.2.1 r.2.2.2.2
 |r::l,h,x,hx=>by
  cases hx with
  |head=>exact h.1
  |tail _ hx=>exact q46 h.2 x hx
theorem yn {P:Program}{p:qt}(hp:qx P p){n k:Nat}{args:List qa}{h h':j8}{v:qa}{o:Bool}(hr:zg p (hM p n) k args h=E3 (v,o,h')):zI P k args h v o h':=
 (Fo hp (b9.FV (ML hp n).1) (by rw[←MR];exact hr)).2
end Go.Z
