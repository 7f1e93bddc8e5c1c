/- The library's functions in the abstract machine. -/
import Derived.Test.YtimdocpnkimlfaaGreatDoorZS
import Derived.Test.YtimdocpnkimlfaaGreatDoorZP
import Derived.Lib.AppendIntMem
import Derived.Test.YtimdocpnkimlfaaGreatDoorZM
import Derived.Test.YtimdocpnkimlfaaGreatDoorL1
set_option linter.unusedVariables false
set_option linter.unusedSimpArgs false
set_option maxRecDepth 100000
open Bool renaming false→I,and_eq_true→E9,cond_eq_ite→Ge,true→Gf,false_eq_true→Gj
open Option renaming some→En,none→Gi
open Nat renaming eq_of_beq_eq_true→Es,beq→Ga,le_of_ble_eq_true→Gd,blt→Gl,ble→Gm,blt_eq→Gt
open List renaming length_map→Gn,isPrefixOf→Gp,length_singleton→Gs,cons_append→Gu,mem_map→Gv,map_map→Gx
namespace Go.Z
open Go Go.Abs Go.Proofs Go.RowKit
theorem q3n {C}:∀(l:List ByteArray),aW C (l.map fun s=>.str s.data.toList) (l.map Value.string)
 | []=>.nil
 |s::l=>.cons _ _ _ _ (show bT C (.str s.data.toList) (.string s)from .str _) (q3n l)
theorem q4r {C r}:∀ {ss:List (List UInt8)} {o:Nat},bA C r 1 (ss.map AVal.str) o→∀(j:Nat) s,ss[j]?=En s→C.K r (o+j)=En (.string ⟨⟨s⟩⟩)
 | [],o,_,j,s,hj=>by simp at hj
 |x::ss,o,h,j,s,hj=>by
  cases h with
  |dA _ _ _ _ _ hs hx hr=>
   cases j with
   |zero=>
    simp only[List.getElem?_cons_zero,En.injEq]at hj
    subst hj
    cases hx with
    |dH _ _ _ _ u hv hu _=>
     rw[Nat.add_zero,hv,bT.cw hu]
   |succ j=>
    have:=q4r hr j s (by simpa using hj)
    rw[show o+(j+1)=o+1+j by omega]
    exact this
theorem Ug {w w'}(h:Below w.heap.size w w'):Ext w w':=⟨h.size,h.block,h.os,h.output⟩
theorem jla {n}(h0:-9223372036854775808≤n)(h1:n≤9223372036854775807):IsoCall Tryz.prog 103 [.int .i64 n] (.str (Lib.itoa n)) I:=by
 refine GO fun K w vs ht hk hr=>?_
 cases hr with
 |cons _ _ v vs hx hr=>
  cases hr
  obtain rfl:=bT.bW hx
  have hg:Tryz.prog.globalNamed n6=En 1:=by kernel_rfl
  refine⟨.string ⟨⟨Lib.itoa n⟩⟩,.str _,(Tryz.strconv_Itoa n h0 h1 w (ht.table hg)).mono ?_⟩
  rintro e w' ⟨rfl,k,os,rfl⟩
  exact⟨rfl,Ug (Lib.below_grow w.heap.size w (Nat.le_refl _) k os)⟩
theorem q0a {s c}:IsoCall Tryz.prog 254 [.str s,.int .u8 c] (.int .i64 (Lib.indexByte s c.toNat.toUInt8)) I:=by
 refine GO fun K w vs ht hk hr=>?_
 cases hr with
 |cons _ _ v vs hx hr=>
  cases hr with
  |cons _ _ v2 vs iQ hr=>
   cases hr
   obtain rfl:=bT.cw hx
   obtain rfl:=bT.bW iQ
   refine⟨_,.int _ _,(Tryz.stringslite_IndexByte ⟨⟨s⟩⟩ c w).mono ?_⟩
   rintro e w' ⟨rfl,rfl⟩
   exact⟨rfl,Ext.refl _⟩
theorem jd0 {s p}(hs:s.length<4294967281)(hp:1≤p.length):IsoCall Tryz.prog 44 [.str s,.str p] (.list I 1 ((Lib.splitB ⟨⟨p⟩⟩ 0 (Lib.countB ⟨⟨s⟩⟩ ⟨⟨p⟩⟩) ⟨⟨s⟩⟩).map fun x=>.str x.data.toList)) I:=by
 refine jj8 (us:=(Lib.splitB ⟨⟨p⟩⟩ 0 (Lib.countB ⟨⟨s⟩⟩ ⟨⟨p⟩⟩) ⟨⟨s⟩⟩).map Value.string) (t:=9) (fun x hx=>?_) (fun K=>q3n _) (fun u hu=>?_) fun K w vs ht hk hr=>?_
 ·obtain⟨y,_,rfl⟩:=Gv.1 hx;rfl
 ·obtain⟨y,_,rfl⟩:=Gv.1 hu;rfl
 ·cases hr with
  |cons _ _ v vs hx hr=>
   cases hr with
   |cons _ _ v2 vs iQ hr=>
    cases hr
    obtain rfl:=bT.cw hx
    obtain rfl:=bT.cw iQ
    have hg0:Tryz.prog.globalNamed xO=En 0:=by kernel_rfl
    obtain⟨m,hm⟩:=ht.length hg0
    refine(Tryz.strings_Split ⟨⟨s⟩⟩ ⟨⟨p⟩⟩ m w hs hm hp).mono ?_
    rintro e w' ⟨rfl,rfl⟩
    refine⟨?_,rfl⟩
    rw[Gn,Lib.splitB_all ⟨⟨p⟩⟩ hp 0 _ ⟨⟨s⟩⟩ rfl]
theorem jk6 {ss p}(bL:ss≠[])(hN:ss.length≤140737488355328)(hlen:(Lib.join ss p).length≤140737488355328):IsoCall Tryz.prog 105 [.list I 1 (ss.map .str),.str p] (.str (Lib.join ss p)) I:=by
 refine GO fun K w vs ht hk hr=>?_
 cases hr with
 |cons _ _ v vs hx hr=>
  cases hr with
  |cons _ _ v2 vs iQ hr=>
   cases hr
   obtain rfl:=bT.cw iQ
   have hl:∃r o cap,v=.slice (En ⟨r,o,Gi⟩) (ss.map AVal.str).length cap∧(ss.map AVal.str).length≤cap∧bA (.b3 K) r 1 (ss.map .str) o:=by
    generalize hq:ss.map AVal.str=q at hx
    cases hx with
    |list _ _ r o cap hl dl=>exact⟨r,o,cap,rfl,hl,dl⟩
    |jJ _ a hs=>exact absurd (List.map_eq_nil_iff.1 hq) bL
   obtain⟨r,o,cap,rfl,hcap,dl⟩:=hl
   have lO:(ss.map fun s=>(⟨⟨s⟩⟩:ByteArray)).map (·.data.toList)=ss:=by
    rw[Gx]
    exact List.map_id' _
   have hcells:∀(j:Nat) x,(ss.map fun s=>(⟨⟨s⟩⟩:ByteArray))[j]?=En x→w.cell? ⟨r,o+j,Gi⟩=En (.string x):=by
    intro j x hj
    rw[List.getElem?_map,Option.map_eq_some_iff]at hj
    obtain⟨s,hs,rfl⟩:=hj
    exact hk _ _ _ (q4r dl j s hs)
   have hbk:r<w.heap.size:=by
    cases py:ss with
    |nil=>exact absurd py bL
    |cons s l=>
     have:=hcells 0 ⟨⟨s⟩⟩ (by rw[py];rfl)
     rcases Nat.lt_or_ge r w.heap.size with h|h
     ·exact h
     ·simp[World.cell?,Array.getElem?_eq_none h]at this
   have hj:=Tryz.strings_Join r o cap (ss.map fun s=>(⟨⟨s⟩⟩:ByteArray)) ⟨⟨p⟩⟩ w hcells hbk (by simpa using hN) (by simpa using hcap) (by rw[lO];exact hlen)
   rw[lO,Gn]at hj
   rw[Gn]
   refine⟨.string ⟨⟨Lib.join ss p⟩⟩,.str _,hj.mono ?_⟩
   rintro e w' ⟨rfl,hb⟩
   exact⟨rfl,Ug hb⟩
theorem jag {s:List UInt8}{c}(hc:c≤9223372036854775807)(hlen:s.length*c≤140737488355328):IsoCall Tryz.prog 196 [.str s,.int .i64 (c:Int)] (.str (Lib.repeatL s c)) I:=by
 refine GO fun K w vs ht hk hr=>?_
 cases hr with
 |cons _ _ v vs hx hr=>
  cases hr with
  |cons _ _ v2 vs iQ hr=>
   cases hr
   obtain rfl:=bT.cw hx
   obtain rfl:=bT.bW iQ
   refine⟨.string ⟨⟨Lib.repeatL s c⟩⟩,.str _,(Tryz.strings_Repeat ⟨⟨s⟩⟩ c w hc hlen).mono ?_⟩
   rintro e w' ⟨rfl,hb⟩
   exact⟨rfl,Ug hb⟩
theorem q0g {p}:IsoCall Tryz.prog 105 [.list Gf 0 [],.str p] (.str []) I:=by
 refine GO fun K w vs ht hk hr=>?_
 cases hr with
 |cons _ _ v vs hx hr=>
  cases hr with
  |cons _ _ v2 vs iQ hr=>
   cases hr
   obtain rfl:=bT.cw iQ
   cases hx
   refine⟨.string ⟨#[]⟩,.str _,(Tryz.strings_Join_none _ _ ⟨⟨p⟩⟩ w).mono ?_⟩
   rintro e w' ⟨rfl,rfl⟩
   exact⟨rfl,Ext.refl _⟩
end Go.Z
namespace Go.Z
open Go Go.Abs Go.Proofs
def wP (c:UInt8)(acc:List UInt8):List UInt8→List (List UInt8)
 | []=>[acc]
 |x::t=>if x=c then acc::wP c [] t else wP c (acc++[x]) t
def wQ (c:UInt8)(s:List UInt8):List (List UInt8):=wP c [] s
theorem q70 {c}:∀ {s:List UInt8} {acc:List UInt8},c ∉ s→wP c acc s=[acc++s]
 | [],acc,_=>by simp[wP]
 |x::t,acc,h=>by
  have h1:x≠c:=fun e=>h (by simp[e])
  have h2:c ∉ t:=fun e=>h (by simp[e])
  rw[wP,if_neg h1,q70 h2]
  simp
theorem q63 {c}:∀ {a b acc:List UInt8},c ∉ a→wP c acc (a++c::b)=(acc++a)::wQ c b
 | [],b,acc,_=>by simp[wP,wQ]
 |x::t,b,acc,h=>by
  have h1:x≠c:=fun e=>h (by simp[e])
  have h2:c ∉ t:=fun e=>h (by simp[e])
  rw[Gu,wP,if_neg h1,q63 h2]
  simp
theorem jvy {c s}(h:c ∉ s):wQ c s=[s]:=q70 h
theorem jvw {c a b}(h:c ∉ a):wQ c (a++c::b)=a::wQ c b:=q63 h
theorem jc0 (c:UInt8)(s:List UInt8):c ∉ s∨∃a b,s=a++c::b∧c ∉ a:=by
 by_cases h:c∈s
 ·obtain⟨a,b,h1,h2⟩:=List.eq_append_cons_of_mem h
  exact .inr ⟨a,b,h1,h2⟩
 ·exact .inl h
theorem q65 {c:UInt8}{P:List UInt8→Prop}(h0:∀s,c ∉ s→P s)(h1:∀a b,c ∉ a→P b→P (a++c::b)):∀(n:Nat) (s:List UInt8),s.length≤n→P s
 |0,s,hn=>h0 s (by rw[List.length_eq_zero_iff.1 (by omega:s.length=0)];simp)
 |n+1,s,hn=>by
  rcases jc0 c s with h|⟨a,b,rfl,h⟩
  ·exact h0 s h
  ·exact h1 a b h (q65 h0 h1 n b (by simp only[List.length_append,List.length_cons]at hn;omega))
theorem q1v {c}:∀ {s:List UInt8},c ∉ s→Lib.index s [c]=-1
 | [],_=>rfl
 |x::t,h=>by
  have h1:x≠c:=fun e=>h (by simp[e])
  have h2:c ∉ t:=fun e=>h (by simp[e])
  have hp:([c]:List UInt8).isPrefixOf (x::t)=I:=by simp[Gp,Ne.symm h1]
  rw[Lib.index,hp,q1v h2];rfl
theorem q50 {c}:∀ {a b:List UInt8},c ∉ a→Lib.index (a++c::b) [c]=(a.length:Int)
 | [],b,_=>by simp[Lib.index,Gp]
 |x::t,b,h=>by
  have h1:x≠c:=fun e=>h (by simp[e])
  have h2:c ∉ t:=fun e=>h (by simp[e])
  have hp:([c]:List UInt8).isPrefixOf (x::(t++c::b))=I:=by simp[Gp,Ne.symm h1]
  have bL:((t.length:Int) == -1)=I:=by simp
  rw[Gu,Lib.index,hp,q50 h2,bL]
  simp
theorem jhr (c:UInt8)(s:List UInt8):Lib.split s [c]=wQ c s:=by
 refine q65 (c:=c) (P:=fun s=>Lib.split s [c]=wQ c s) ?_ ?_ s.length s (Nat.le_refl _)
 ·intro s h
  rw[jvy h,Lib.split,Lib.count_miss (q1v h)];rfl
 ·intro a b h ih
  have hi:=q50 (b:=b) h
  have hd:(a++c::b).drop (a.length+1)=b:=by
   rw[show a++c::b=(a++[c])++b by simp,show a.length+1=(a++[c]).length by simp,List.drop_left]
  have hm:((a.length:Int) == -1)=I:=by simp
  rw[jvw h,Lib.split,Lib.count_hit (by simp) hi]
  simp only[Gs,hd,Nat.add_comm 1]
  rw[Lib.splitK,hi,hm]
  simp only[Gj,if_false,Int.toNat_natCast,Nat.add_zero,Gs,hd]
  rw[List.take_left',←ih]; · rfl
  ·rfl
def IG (c:UInt8):List UInt8→Nat→Int
 | [],_=>-1
 |b::l,n=>bif b == c then(n:Int)else IG c l (n+1)
theorem q7y (c:UInt8):∀(l:List UInt8) (n:Nat),IG c l n=if Lib.indexByte l c == -1 then -1 else Lib.indexByte l c+n
 | [],n=>rfl
 |b::l,n=>by
  have uQ:=Lib.indexByte_ge l c
  rw[IG,Lib.indexByte,q7y c l (n+1)]
  cases hb:(b == c)with
  |true=>simp
  |false=>
   simp only[cond_false,Gj,if_false]
   by_cases h:Lib.indexByte l c=-1
   ·simp[h]
   ·have h1:(Lib.indexByte l c == -1)=I:=by simpa using h
    have h2:(Lib.indexByte l c+1 == -1)=I:=by simp;omega
    simp only[h1,h2,Gj,if_false]
    omega
theorem jel (c:UInt8)(l:List UInt8):IG c l 0=Lib.indexByte l c:=by
 rw[q7y]
 by_cases h:Lib.indexByte l c=-1
 ·simp[h]
 ·have h1:(Lib.indexByte l c == -1)=I:=by simpa using h
  simp[h1]
def IH:Nat→Nat→List UInt8→List UInt8
 |0,_,acc=>acc
 |f+1,u,acc=>bif Gl u 10 then UInt8.ofNat (48+u)::acc else IH f (u / 10) (UInt8.ofNat (48+u % 10)::acc)
theorem q67:∀ (f u:Nat) (acc:List UInt8),u<10^f→0<f→IH f u acc=Lib.decDigits u++acc
 |0,_,_,_,h=>by omega
 |f+1,u,acc,hu,_=>by
  rw[IH,Lib.decDigits]
  by_cases h:u<10
  ·rw[Gt.mpr h];simp[h]
  ·have hb:Gl u 10=I:=by
    cases hh:Gl u 10 with
    |false=>rfl
    |true=>exact absurd (Gt.mp hh) h
   have hf:0<f:=by
    rcases Nat.eq_zero_or_pos f with rfl|h1
    ·simp at hu;omega
    ·exact h1
   rw[hb,dif_neg h]
   simp only[cond_false]
   rw[q67 f (u / 10) _ (by rw[Nat.pow_succ]at hu;omega) hf]
   simp
def Mh:List AVal→Option (List (List UInt8))
 | []=>En []
 | .str s::l=>match Mh l with
  |some r=>En (s::r)
  |none=>Gi
 |_=>Gi
theorem qzj:∀ {l:List AVal} {r:List (List UInt8)},Mh l=En r→l=r.map .str
 | [],r,h=>by cases h;rfl
 | .str s::l,r,h=>by
  simp only[Mh]at h
  split at h
  ·rename_i q hq
   cases h
   rw[qzj hq];rfl
  ·cases h
 | .bool _::_,_,h | .int ..::_,_,h | .list ..::_,_,h | .ms ..::_,_,h | .ptr ..::_,_,h | .ai _::_,_,h | .b9::_,_,h | .map _::_,_,h | .b8::_,_,h | .fn ..::_,_,h | .cx::_,_,h | .agg _::_,_,h | .aI _::_,_,h | .undef::_,_,h | .any::_,_,h | .aj ..::_,_,h | .di ..::_,_,h | .c8 _::_,_,h=>by cases h
def Uh:List AVal→Option (AVal×Bool)
 | [.str s,.int .u8 (.ofNat c)]=>En (.int .i64 (IG (UInt8.ofNat c) s 0),I)
 |_=>Gi
def Ui:List AVal→Option (AVal×Bool)
 | [.str s,.str [c]]=>bif Gl s.length 4294967281 then En (.list I 1 ((wQ c s).map .str),I)else Gi
 |_=>Gi
def t99:List AVal→Option (AVal×Bool)
 | [.list Gf 0 [],.str _]=>En (.str [],I)
 | [.list I 1 l,.str p]=>match Mh l with
  |some (s::ss)=>bif Gm (s::ss).length 100000&&Gm (p.intercalate (s::ss)).length 100000000 then En (.str (p.intercalate (s::ss)),I)else Gi
  |_=>Gi
 |_=>Gi
def II:List AVal→Option (AVal×Bool)
 | [.int .i64 (.ofNat n)]=>bif Gl n 1000000000000000000 then En (.str (IH 18 n []),I)else Gi
 |_=>Gi
def Uj:List AVal→Option (AVal×Bool)
 | [.str s,.int .i64 (.ofNat c)]=>bif Gm c 100000&&Gm (s.length*c) 100000 then En (.str (Lib.repeatL s c),I)else Gi
 |_=>Gi
theorem jpv {args v o}(h:Uh args=En (v,o)):IsoCall Tryz.prog 254 args v o:=by
 unfold Uh at h;split at h
 ·rename_i s c
  cases h
  rw[jel]
  exact q0a (s:=s) (c:=Int.ofNat c)
 ·cases h
theorem jnd {args v o}(h:Ui args=En (v,o)):IsoCall Tryz.prog 44 args v o:=by
 unfold Ui at h;split at h
 ·rename_i s c
  cases hl:Gl s.length 4294967281 with
  |false=>rw[hl]at h;cases h
  |true=>
   rw[hl]at h
   cases h
   have:=jd0 (s:=s) (p:=[c]) (Gt.mp hl) (by simp)
   have e:(Lib.splitB ⟨⟨[c]⟩⟩ 0 (Lib.countB ⟨⟨s⟩⟩ ⟨⟨[c]⟩⟩) ⟨⟨s⟩⟩).map (fun x=>AVal.str x.data.toList)=(wQ c s).map .str:=by
    rw[←jhr]
    have e2:(Lib.splitB ⟨⟨[c]⟩⟩ 0 (Lib.countB ⟨⟨s⟩⟩ ⟨⟨[c]⟩⟩) ⟨⟨s⟩⟩).map (·.data.toList)=Lib.split s [c]:=by
     rw[Lib.splitB_data];rfl
    rw[←e2,Gx];rfl
   rw[e]at this
   exact this
 ·cases h
theorem jtd {args v o}(h:t99 args=En (v,o)):IsoCall Tryz.prog 105 args v o:=by
 unfold t99 at h;split at h
 ·cases h;exact q0g
 ·rename_i l p
  split at h
  ·rename_i s ss hq
   cases hk:(Gm (s::ss).length 100000&&Gm (p.intercalate (s::ss)).length 100000000)with
   |false=>rw[hk]at h;cases h
   |true=>
    rw[hk]at h
    cases h
    simp only[E9]at hk
    have h1:=Gd hk.1
    have h2:=Gd hk.2
    rw[qzj hq]
    exact jk6 (ss:=s::ss) (p:=p) (by simp) (by omega) (by show(p.intercalate (s::ss)).length≤_;omega)
  ·cases h
 ·cases h
theorem q7a {args v o}(h:II args=En (v,o)):IsoCall Tryz.prog 103 args v o:=by
 unfold II at h;split at h
 ·rename_i n
  cases hk:Gl n 1000000000000000000 with
  |false=>rw[hk]at h;cases h
  |true=>
   rw[hk]at h
   cases h
   have hn:=Gt.mp hk
   have:=jla (n:=Int.ofNat n) (by simp<;>omega) (by simp<;>omega)
   have e:Lib.itoa (Int.ofNat n)=IH 18 n []:=by
    rw[q67 18 n [] (by omega) (by omega),List.append_nil]
    unfold Lib.itoa
    rw[if_neg (by simp)]
    rfl
   rw[e]at this
   exact this
 ·cases h
theorem joh {args v o}(h:Uj args=En (v,o)):IsoCall Tryz.prog 196 args v o:=by
 unfold Uj at h;split at h
 ·rename_i s c
  cases hk:(Gm c 100000&&Gm (s.length*c) 100000)with
  |false=>rw[hk]at h;cases h
  |true=>
   rw[hk]at h
   cases h
   simp only[E9]at hk
   have h1:=Gd hk.1
   have h2:=Gd hk.2
   exact jag (s:=s) (c:=c) (by omega) (by omega)
 ·cases h
theorem jcf {k f}(h:Is k f):Abs.Enters Tryz.prog k:=by
 obtain⟨fn,hh,h1,h2⟩:=h
 obtain⟨c,g1,g2,g3,g4,g5⟩:=Rl h2
 exact⟨fn,h1,g5,by rw[g1];rfl⟩
theorem uE {k}(h:(tree.find k).isSome=Gf):Abs.Enters Tryz.prog k:=by
 obtain⟨f,hf⟩:=Option.isSome_iff_exists.1 h
 exact jcf (dB.gh all hf)
def Uk:xE:=fun k=>bif Ga k 254 then En Uh else bif Ga k 44 then En Ui else bif Ga k 105 then En t99 else bif Ga k 103 then En II else bif Ga k 196 then En Uj else Gi
def Ul (args:List AVal)(h:qh):Option (AVal×Bool×qh):=bif qw 0 args then(match II args with
 |some (v,_)=>En (v,I,h)
 |none=>Gi)else Gi
def q68:je3:=fun k=>bif Ga k 103 then En Ul else Gi
def isL (k:Nat):Bool:=Ga k 254||Ga k 44||Ga k 105||Ga k 103||Ga k 196
def bM:jz:={ bG:=fun k=>bif isL k then Gi else pr.bG k,cO:=Uk,dL:=q68,maps:=Um }
theorem jpm {args h v o h'}(hq:Ul args h=En (v,o,h')):AF Tryz.prog 103 args h v o h':=by
 unfold Ul at hq
 cases hb:qw 0 args with
 |false=>rw[hb]at hq;cases hq
 |true=>
  rw[hb]at hq
  simp only[cond_true]at hq
  split at hq
  ·rename_i v' o' ht
   cases hq
   have hv:mF v=Gf:=by
    unfold II at ht;split at ht
    ·rename_i n
     cases hk:Gl n 1000000000000000000 with
     |false=>rw[hk]at ht;cases ht
     |true=>rw[hk]at ht;cases ht;rfl
    ·cases ht
   exact(q7a ht).shr hb hv h
  ·cases hq
theorem P6:∀ (t:List (Nat×List Row)),(t.all fun p=>(tree.find p.1).isSome)=Gf→∀k l,xD t k=En l→(tree.find k).isSome=Gf
 |(j,m)::t,h,k,l,hk=>by
  simp only[List.all_cons,E9]at h
  simp only[xD,Ge]at hk
  split at hk
  ·next hb=>rw[←Es hb];exact h.1
  ·exact P6 t h.2 k l hk
theorem BN:b6 Tryz.prog pr:=okM ok0
theorem bP:b6 Tryz.prog bM where
 fn:=by
  intro k f hf
  simp only[bM,Ge]at hf
  split at hf
  ·cases hf
  ·exact BN.fn k f hf
 iK:=by
  intro k f hf
  simp only[bM,Uk,Ge]at hf
  split at hf
  ·next hb=>cases hf;obtain rfl:=Es hb;exact⟨uE (k:=254) (by kernel_rfl),fun args v o h _ _=>jpv h⟩
  split at hf
  ·next hb=>cases hf;obtain rfl:=Es hb;exact⟨uE (k:=44) (by kernel_rfl),fun args v o h _ _=>jnd h⟩
  split at hf
  ·next hb=>cases hf;obtain rfl:=Es hb;exact⟨uE (k:=105) (by kernel_rfl),fun args v o h _ _=>jtd h⟩
  split at hf
  ·next hb=>cases hf;obtain rfl:=Es hb;exact⟨uE (k:=103) (by kernel_rfl),fun args v o h _ _=>q7a h⟩
  split at hf
  ·next hb=>cases hf;obtain rfl:=Es hb;exact⟨uE (k:=196) (by kernel_rfl),fun args v o h _ _=>joh h⟩
  ·cases hf
 mixed:=BN.mixed
 fT:=by
  intro k f hf
  simp only[bM,q68,Ge]at hf
  split at hf
  ·next hb=>cases hf;obtain rfl:=Es hb;exact⟨uE (k:=103) (by kernel_rfl),fun args h v o h' hq=>jpm hq⟩
  ·cases hf
 maps:=BN.maps
end Go.Z
namespace Go.Z
open Go Go.Abs Go.Proofs
def Ev:AVal→AVal→Bool
 | .fn (.func a) [] [],.fn (.func b) [] []=>Ga a b
 | .cx,.cx=>Gf
 | .aj a b c,.aj a' b' c'=>Ga a a'&&(Ga b b'&&Ga c c')
 | .ptr a b,.ptr a' b'=>Ga a a'&&Ga b b'
 |a,b=>jF a b
theorem Mi {a b}(h:Ev a b=Gf):a=b:=by
 unfold Ev at h
 split at h
 ·rw[Es h]
 ·rfl
 ·simp only[E9]at h
  rw[Es h.1,Es h.2.1,Es h.2.2]
 ·simp only[E9]at h
  rw[Es h.1,Es h.2]
 ·exact qzo h
def IJ:List AVal→List AVal→Bool
 | [],[]=>Gf
 |a::l,b::m=>Ev a b&&IJ l m
 |_,_=>I
theorem Un:∀ {l m:List AVal},IJ l m=Gf→l=m
 | [],[],_=>rfl
 |a::l,b::m,h=>by
  simp only[IJ,E9]at h
  rw[Mi h.1,Un h.2]
 | [],_::_,h=>by cases h
 |_::_,[],h=>by cases h
def Uo:AVal→AVal→Bool
 | .agg l,.agg m=>IJ l m
 |a,b=>Ev a b
theorem jdn {a b}(h:Uo a b=Gf):a=b:=by
 unfold Uo at h
 split at h
 ·rw[Un h]
 ·exact Mi h
def Mj:List (AVal×Bool)→List (AVal×Bool)→Bool
 | [],[]=>Gf
 |(a,o)::l,(b,q)::m=>Ev a b&&((o == q)&&Mj l m)
 |_,_=>I
theorem qxi:∀ {l m:List (AVal×Bool)},Mj l m=Gf→l=m
 | [],[],_=>rfl
 |(a,o)::l,(b,q)::m,h=>by
  simp only[Mj,E9,beq_iff_eq]at h
  rw[Mi h.1,h.2.1,qxi h.2.2]
 | [],_::_,h=>by cases h
 |_::_,[],h=>by cases h
def Ml:List (AVal×AVal)→List (AVal×AVal)→Bool
 | [],[]=>Gf
 |(a,o)::l,(b,q)::m=>Ev a b&&(Uo o q&&Ml l m)
 |_,_=>I
theorem qtx:∀ {l m:List (AVal×AVal)},Ml l m=Gf→l=m
 | [],[],_=>rfl
 |(a,o)::l,(b,q)::m,h=>by
  simp only[Ml,E9]at h
  rw[Mi h.1,jdn h.2.1,qtx h.2.2]
 | [],_::_,h=>by cases h
 |_::_,[],h=>by cases h
def Up:bg→bg→Bool
 | .hole,.hole=>Gf
 | .dead,.dead=>Gf
 | .cells l,.cells m=>Mj l m
 | .map l,.map m=>Ml l m
 | .vec a b l,.vec a' b' m=>Ga a a'&&(Ga b b'&&vg l m)
 |_,_=>I
theorem jae {a b}(h:Up a b=Gf):a=b:=by
 unfold Up at h
 split at h
 ·rfl
 ·rfl
 ·rw[qxi h]
 ·rw[qtx h]
 ·simp only[E9]at h
  rw[Es h.1,Es h.2.1,DQ h.2.2]
 ·cases h
def Mm:qh→qh→Bool
 | [],[]=>Gf
 |a::l,b::m=>Up a b&&Mm l m
 |_,_=>I
theorem qud:∀ {l m:qh},Mm l m=Gf→l=m
 | [],[],_=>rfl
 |a::l,b::m,h=>by
  simp only[Mm,E9]at h
  rw[jae h.1,qud h.2]
 | [],_::_,h=>by cases h
 |_::_,[],h=>by cases h
abbrev kf:=List AVal×qh×AVal×Bool×qh
def Kg (args:List AVal)(h:qh):List kf→Option (AVal×Bool×qh)
 | []=>Gi
 |r::l=>bif IJ args r.1&&Mm h r.2.1 then En r.2.2 else Kg args h l
theorem qzg {args h x}:∀ {l:List kf},Kg args h l=En x→(args,h,x)∈l
 | [],h=>by cases h
 |r::l,hx=>by
  simp only[Kg,Ge]at hx
  split at hx
  ·next hb=>
   simp only[E9]at hb
   cases hx
   rw[Un hb.1,qud hb.2]
   exact List.mem_cons_self ..
  ·exact List.mem_cons_of_mem _ (qzg hx)
def P3 (P:Program)(k:Nat):List kf→Prop
 | []=>True
 |r::l=>AF P k r.1 r.2.1 r.2.2.1 r.2.2.2.1 r.2.2.2.2∧P3 P k l
theorem q5c {P k}:∀ {l:List kf},P3 P k l→∀r∈l,AF P k r.1 r.2.1 r.2.2.1 r.2.2.2.1 r.2.2.2.2
 |r::l,h,x,hx=>by
  cases hx with
  |head=>exact h.1
  |tail _ hx=>exact q5c h.2 x hx
theorem ju {P p}(hp:b6 P p){n k args h h' v o}(hr:qm p (iL p n) k args h=En (v,o,h')):AF P k args h v o h':=
 (F0 hp (cJ.Gw (K5 hp n).1) (by rw[←La];exact hr)).2
end Go.Z
namespace Go.Z
open Go Go.Abs Go.Proofs
abbrev xL:=iL bM 1000
def fO:AVal:=.list Gf 0 []
def eb:bg:=.cells [(fO,I),(fO,I),(.aj 2 0 1,I)]
def cn:AVal:=.int .i64 0
def zL:AVal:=.agg [cn,fO,fO,fO]
def hJ:AVal:=.int .i64 1
def BO:AVal:=.str [99,111,110,101,95,49]
def Ew:AVal:=.str [99,111,110,101]
def wR:AVal:=.int .i64 10
def vF:AVal:=.bool I
def xv9:AVal:=.agg [BO,Ew,wR,wR,vF]
def Uq:AVal:=.agg [hJ,.list I 5 [xv9],fO,fO]
def lv1:List AVal:=[zL,Uq]
def Mn:AVal:=.str [108,111,116]
def lv2:List AVal:=[BO,Ew]
def BP:AVal:=.agg [hJ,Mn,.list I 1 lv2,.list I 1 [hJ,wR],.str []]
def bv2:bg:=.vec 5 0 [BP]
def bv3:bg:=.cells [(.aj 7 1 2,I),(.aj 5 1 2,I),(.aj 2 2 3,I)]
def wS:AVal:=.str [99,111,105,108,95,49]
def Ey:AVal:=.str [99,111,105,108]
def BQ:AVal:=.int .i64 5
def jtn:AVal:=.agg [wS,Ey,BQ,BQ,vF]
def BR:AVal:=.list I 5 [xv9,jtn]
def Ur:AVal:=.agg [hJ,BR,fO,fO]
def lv3:List AVal:=lv1++[Ur]
def bv4:bg:=.vec 4 2 lv3
def vG:AVal:=.int .i64 2
def lv4:List AVal:=[wS,Ey]
def Ez:AVal:=.agg [vG,Mn,.list I 1 lv4,.list I 1 [hJ,BQ],.str []]
def lv5:List AVal:=[BP,Ez]
def Mp:bg:=.vec 5 1 lv5
def bv6:bg:=.cells [(.aj 7 2 3,I),(.aj 5 2 3,I),(.aj 2 3 4,I)]
def mQ:AVal:=.str [98,111,120]
def Us:AVal:=.agg [hJ,BR,.list I 4 [.agg [mQ,fO,fO,fO]],fO]
def lv6:List AVal:=lv3++[Us]
def bv7:bg:=.vec 4 3 lv6
def pT:AVal:=.int .i64 3
def jq2:AVal:=.str [112,114,111,100,117,99,116]
def Ut:AVal:=.list I 1 [mQ]
def EA:AVal:=.agg [pT,jq2,Ut,.list I 1 [hJ],.str []]
def lv7:List AVal:=lv5++[EA]
def Mq:bg:=.vec 5 2 lv7
def bv9:bg:=.cells [(.aj 7 3 4,I),(.aj 5 3 4,I),(.aj 2 4 5,I)]
def jr2:AVal:=.agg [Ew,vG]
def Uu:AVal:=.agg [hJ,BR,.list I 4 [.agg [mQ,.list I 2 [jr2],fO,fO]],fO]
def lv8:List AVal:=lv6++[Uu]
def jxe:bg:=.vec 4 4 lv8
def Mr:AVal:=.int .i64 4
def Ms:AVal:=.str [110,101,101,100]
def EB:AVal:=.agg [Mr,Ms,.list I 1 [mQ,Ew],.list I 1 [hJ,vG],.str []]
def lv9:List AVal:=lv7++[EB]
def Mt:bg:=.vec 5 3 lv9
def jr8:bg:=.cells [(.aj 7 4 5,I),(.aj 5 4 5,I),(.aj 2 5 6,I)]
def Uv:AVal:=.list I 2 [jr2,.agg [Ey,hJ]]
def Uw:AVal:=.agg [hJ,BR,.list I 4 [.agg [mQ,Uv,fO,fO]],fO]
def jru:List AVal:=lv8++[Uw]
def jti:bg:=.vec 4 5 jru
def EC:AVal:=.agg [BQ,Ms,.list I 1 [mQ,Ey],.list I 1 [hJ,hJ],.str []]
def jrv:List AVal:=lv9++[EC]
def Mu:bg:=.vec 5 4 jrv
def jsf:bg:=.cells [(.aj 7 5 6,I),(.aj 5 5 6,I),(.aj 2 6 7,I)]
def zfy:List AVal:=[mQ,Uv]
def BS:AVal:=.str [115,119,101,101,112]
def jsy:AVal:=.int .i64 80
def jsn:AVal:=.int .i64 90
def jws:AVal:=.list I 3 [.agg [BS,jsy,jsn]]
def Ux:List AVal:=zfy++[jws]
def Uy:AVal:=.agg [hJ,BR,.list I 4 [.agg ((Ux++[fO]))],fO]
def jvv:List AVal:=jru++[Uy]
def jua:bg:=.vec 4 6 jvv
def Uz:AVal:=.int .i64 6
def jvd:AVal:=.str [116,101,115,116]
def ED:AVal:=.agg [Uz,jvd,.list I 1 [mQ,BS],.list I 1 [hJ,jsy,jsn],.str []]
def jqo:List AVal:=jrv++[ED]
def Mv:bg:=.vec 5 5 jqo
def jrb:bg:=.cells [(.aj 7 6 7,I),(.aj 5 6 7,I),(.aj 2 7 8,I)]
def UA:AVal:=.agg [Uv,jws]
def IK:AVal:=.list I 4 [.agg ((Ux++[.list I 2 [UA]]))]
def UB:AVal:=.agg [vG,BR,IK,fO]
def jun:List AVal:=jvv++[UB]
def jqs:bg:=.vec 4 7 jun
def UC:AVal:=.int .i64 7
def UD:AVal:=.str [105,115,115,117,101]
def EE:AVal:=.agg [UC,UD,Ut,.list I 1 [vG],.str []]
def jqw:List AVal:=jqo++[EE]
def Mw:bg:=.vec 5 6 jqw
def jrk:bg:=.cells [(.aj 7 7 8,I),(.aj 5 7 8,I),(.aj 2 8 9,I)]
def pU:AVal:=.str [117,49]
def UE:AVal:=.agg [pT,BR,IK,.list I 8 [.agg [pU,mQ,hJ,fO,fO,.str [],vF,cn]]]
def jwn:List AVal:=jun++[UE]
def jrt:bg:=.vec 4 8 jwn
def Mx:AVal:=.int .i64 8
def jsd:AVal:=.str [98,117,105,108,100]
def BT:List AVal:=[pU,mQ]
def rU:AVal:=.list I 1 [pT]
def EF:AVal:=.agg [Mx,jsd,.list I 1 BT,rU,.str []]
def jtl:List AVal:=jqw++[EF]
def My:bg:=.vec 5 7 jtl
def jtc:bg:=.cells [(.aj 7 8 9,I),(.aj 5 8 9,I),(.aj 2 9 10,I)]
def UF:AVal:=.agg ((lv2++[wR,Mx,vF]))
def jv8:AVal:=.agg [BO,vG]
def Mz:AVal:=.agg [pT,.list I 5 [UF,jtn],IK,.list I 8 [.agg ((BT++[hJ,.list I 2 [jv8],fO,.str [],vF,cn]))]]
def jtp:List AVal:=jwn++[Mz]
def jxi:bg:=.vec 4 9 jtp
def UG:AVal:=.int .i64 9
def MA:AVal:=.str [117,115,101]
def jr9:AVal:=.list I 1 [pU,BO]
def EG:AVal:=.agg [UG,MA,jr9,.list I 1 [pT,vG],.str []]
def jv3:List AVal:=jtl++[EG]
def MB:bg:=.vec 5 8 jv3
def UH:bg:=.cells [(.aj 7 9 10,I),(.aj 5 9 10,I),(.aj 2 10 11,I)]
def zfu:List AVal:=lv4++[BQ]
def jta:List AVal:=zfu++[Mr]
def js6:List AVal:=[pT,.list I 5 [UF,.agg ((jta++[vF]))]]
def MC:List AVal:=js6++[IK]
def IL:AVal:=.list I 2 [jv8,.agg [wS,hJ]]
def MD:AVal:=.agg ((MC++[.list I 8 [.agg ((BT++[hJ,IL,fO,.str [],vF,cn]))]]))
def jvr:List AVal:=jtp++[MD]
def UI:bg:=.vec 4 10 jvr
def jq6:AVal:=.list I 1 [pT,hJ]
def EH:AVal:=.agg [wR,MA,.list I 1 [pU,wS],jq6,.str []]
def jw2:List AVal:=jv3++[EH]
def EI:bg:=.vec 5 9 jw2
def UJ:bg:=.cells [(.aj 7 10 11,I),(.aj 5 10 11,I),(.aj 2 11 12,I)]
def jt9:List AVal:=[BS,hJ]
def jww:AVal:=.int .i64 85
def jsw:AVal:=.agg ((jt9++[jww]))
def UK:AVal:=.list I 3 [jsw]
def UL:AVal:=.list I 8 [.agg ((BT++[hJ,IL,UK,.str [],vF,cn]))]
def EJ:AVal:=.agg ((MC++[UL]))
def IP:List AVal:=jvr++[EJ]
def UM:bg:=.vec 4 11 IP
def IQ:AVal:=.int .i64 11
def UN:AVal:=.str [109,101,97,115,117,114,101]
def jrq:AVal:=.list I 1 [pU,BS]
def EK:AVal:=.agg [IQ,UN,jrq,.list I 1 [pT,jww],.str []]
def IU:List AVal:=jw2++[EK]
def EL:bg:=.vec 5 10 IU
def UO:bg:=.cells [(.aj 7 11 12,I),(.aj 5 11 12,I),(.aj 2 12 13,I)]
def fS:AVal:=.bool Gf
def UQ:AVal:=.agg [pT,.list I 5 [UF,.agg ((jta++[fS]))],IK,UL]
def IV:bg:=.vec 4 12 ((IP++[UQ]))
def UR:AVal:=.int .i64 12
def juz:AVal:=.str [104,111,108,100]
def jw8:AVal:=.list I 1 [wS]
def EM:AVal:=.agg [UR,juz,jw8,rU,.str []]
def jq3:List AVal:=IU++[EM]
def zM:bg:=.vec 5 11 jq3
def jvn:bg:=.cells [(.aj 7 12 13,I),(.aj 5 11 11,I),(.aj 2 12 12,I)]
def IW:AVal:=.int .i64 13
def BU:AVal:=.str [117,110,100,111]
def IX:AVal:=.list I 1 []
def IY:AVal:=.agg [IW,BU,IX,fO,.str []]
def jrz:List AVal:=jq3++[IY]
def jt4:bg:=.vec 5 12 jrz
def jtf:bg:=.cells [(.aj 7 13 14,I),(.aj 5 12 12,I),(.aj 2 13 13,I)]
def jq1:List AVal:=js6++[.list I 4 [.agg ((Ux++[.list I 2 [UA,UA]]))]]
def ME:AVal:=.agg ((jq1++[UL]))
def jwy:List AVal:=IP++[ME]
def jv2:bg:=.vec 4 13 jwy
def US:AVal:=.int .i64 14
def BV:AVal:=.agg [US,UD,Ut,rU,.str []]
def jwu:List AVal:=IU++[BV]
def jw5:bg:=.vec 5 12 jwu
def juh:List AVal:=jrz++[BV]
def jwg:bg:=.vec 5 13 juh
def jug:bg:=.cells [(.aj 7 14 15,I),(.aj 5 13 13,I),(.aj 2 14 14,I)]
def UT:AVal:=.agg ((jq1++[.list I 8 [.agg ((BT++[vG,IL,UK,.str [],vF,cn]))]]))
def EN:bg:=.vec 4 14 ((jwy++[UT]))
def IZ:AVal:=.int .i64 15
def jvm:AVal:=.str [117,112,100,97,116,101]
def vH:AVal:=.list I 1 [pU]
def BW:AVal:=.agg [IZ,jvm,vH,rU,.str []]
def EO:bg:=.vec 5 13 ((jwu++[BW]))
def jwl:List AVal:=juh++[BW]
def jse:bg:=.vec 5 14 jwl
def jq5:bg:=.cells [(.aj 7 15 16,I),(.aj 5 13 12,I),(.aj 2 14 13,I)]
def I0:AVal:=.int .i64 16
def I1:AVal:=.agg [I0,BU,IX,fO,.str []]
def jsk:List AVal:=jwl++[I1]
def jsx:bg:=.vec 5 15 jsk
def jrl:bg:=.cells [(.aj 7 16 17,I),(.aj 5 13 11,I),(.aj 2 14 12,I)]
def UU:AVal:=.int .i64 17
def I2:AVal:=.agg [UU,BU,IX,fO,.str []]
def jsc:List AVal:=jsk++[I2]
def jts:bg:=.vec 5 16 jsc
def jsb:bg:=.cells [(.aj 7 17 18,I),(.aj 5 14 12,I),(.aj 2 15 13,I)]
def jtg:AVal:=.int .i64 91
def UW:AVal:=.agg ((MC++[.list I 8 [.agg ((BT++[hJ,IL,.list I 3 [jsw,.agg ((jt9++[jtg]))],.str [],vF,cn]))]]))
def I4:bg:=.vec 4 15 ((IP++[UW]))
def UX:AVal:=.int .i64 18
def BX:AVal:=.agg [UX,UN,jrq,.list I 1 [pT,jtg],.str []]
def I5:bg:=.vec 5 14 ((IU++[BX]))
def jqe:List AVal:=jsc++[BX]
def jra:bg:=.vec 5 17 jqe
def UY:bg:=.cells [(.aj 7 18 19,I),(.aj 5 14 11,I),(.aj 2 15 12,I)]
def EP:AVal:=.int .i64 19
def I6:AVal:=.agg [EP,BU,IX,fO,.str []]
def jv9:List AVal:=jqe++[I6]
def UZ:bg:=.vec 5 18 jv9
def U0:bg:=.cells [(.aj 7 19 20,I),(.aj 5 15 12,I),(.aj 2 16 13,I)]
def U1:AVal:=.agg ((MC++[.list I 8 [.agg ((BT++[hJ,IL,UK,.str [],fS,cn]))]]))
def U2:bg:=.vec 4 16 ((IP++[U1]))
def MF:AVal:=.int .i64 20
def zN:AVal:=.str [115,104,105,112]
def BZ:AVal:=.agg [MF,zN,vH,rU,.str []]
def U3:bg:=.vec 5 15 ((IU++[BZ]))
def jvh:List AVal:=jv9++[BZ]
def U4:bg:=.vec 5 19 jvh
def jrm:List AVal:=[UD,mQ]
def jqt:List AVal:=[MA,pU]
def zjh:List AVal:=jqt++[BO]
def jt6:List AVal:=zjh++[.str [51]]
def B0:AVal:=.list I 1 [zN,pU,.str [51]]
def U5:AVal:=.agg [wR,zN,vH,rU,.str []]
def U6:AVal:=.agg [IQ,zN,vH,rU,.str []]
def jl5:AVal:=.int .i64 31
def U7:AVal:=.aI [zL,jl5]
def zfq:List AVal:=[UN,pU]
def zhq:List AVal:=zfq++[BS]
def jrh:List AVal:=zhq++[.str [51]]
def U8:AVal:=.agg [IW,zN,vH,rU,.str []]
def jlx:AVal:=.int .i64 34
def I7:AVal:=.list I 1 [BU]
def U9:AVal:=.agg [IZ,zN,vH,rU,.str []]
def jmg:AVal:=.int .i64 32
def Va:AVal:=.agg [I0,zN,vH,rU,.str []]
def Vb:AVal:=.agg [EP,zN,vH,rU,.str []]
def EQ:AVal:=.int .i64 21
def jmn:AVal:=.agg [EQ,BU,IX,fO,.str []]
def Vc:AVal:=.agg [EQ,MA,jr9,jq6,.str []]
def jmm:AVal:=.str [49,32,108,111,116,32,99,111,110,101,95,49,32,99,111,110,101,32,49,32,49,48]
def jlp:AVal:=.str [50,32,108,111,116,32,99,111,105,108,95,49,32,99,111,105,108,32,49,32,53]
def jmd:AVal:=.str [51,32,112,114,111,100,117,99,116,32,98,111,120,32,49]
def jlr:AVal:=.str [52,32,110,101,101,100,32,98,111,120,32,99,111,110,101,32,49,32,50]
def jl3:AVal:=.str [53,32,110,101,101,100,32,98,111,120,32,99,111,105,108,32,49,32,49]
def jmj:AVal:=.str [54,32,116,101,115,116,32,98,111,120,32,115,119,101,101,112,32,49,32,56,48,32,57,48]
def jl6:AVal:=.str [55,32,105,115,115,117,101,32,98,111,120,32,50]
def jmf:AVal:=.str [56,32,98,117,105,108,100,32,117,49,32,98,111,120,32,51]
def jlq:AVal:=.str [57,32,117,115,101,32,117,49,32,99,111,110,101,95,49,32,51,32,50]
def jmq:AVal:=.str [49,48,32,117,115,101,32,117,49,32,99,111,105,108,95,49,32,51,32,49]
def jlv:AVal:=.str [49,49,32,109,101,97,115,117,114,101,32,117,49,32,115,119,101,101,112,32,51,32,56,53]
def jl2:AVal:=.str [49,50,32,104,111,108,100,32,99,111,105,108,95,49,32,51]
def jml:AVal:=.str [49,51,32,117,110,100,111]
def jmk:AVal:=.str [49,52,32,105,115,115,117,101,32,98,111,120,32,51]
def jmp:AVal:=.str [49,53,32,117,112,100,97,116,101,32,117,49,32,51]
def jmb:AVal:=.str [49,54,32,117,110,100,111]
def jmr:AVal:=.str [49,55,32,117,110,100,111]
def jme:AVal:=.str [49,56,32,109,101,97,115,117,114,101,32,117,49,32,115,119,101,101,112,32,51,32,57,49]
def jl9:AVal:=.str [49,57,32,117,110,100,111]
def jlz:AVal:=.str [50,48,32,115,104,105,112,32,117,49,32,51]
def Vd:AVal:=.list I 5 jvh
def B1:List AVal:=[.ptr 0 0,.str [115,104,105,112,32,117,49,32,51]]
def Ve:AVal:=.aI [.str [],jl5]
def jq7:List AVal:=[.ptr 0 0,.str [109,105,115,115,105,110,103,32,117,49]]
def jls:AVal:=.aI [.str [110,111,110,101],cn]
def jrc:List AVal:=[.ptr 0 0,.str [115,116,111,99,107,32,99,111,105,108]]
def I8:List AVal:=[.ptr 0 0,BU]
def js7:List AVal:=[.ptr 0 0,.str [115,104,105,112,112,101,100]]
def hw1:qh:=[eb,eb,.vec 4 0 [zL]]
def hw2:qh:=[.cells [(.aj 7 0 1,I),(.aj 5 0 1,I),(.aj 2 1 2,I)],eb,.vec 4 1 lv1,.map jl,.map qz,bv2,.hole,bv2]
def hw3:qh:=[bv3,eb,bv4,.map jl,.map qz,Mp,.hole,Mp,.map jl,.map qz]
def hw4:qh:=[bv3,eb,bv4,.map jl,.map qz,Mp,.hole,Mp]
def hw5:qh:=[bv6,eb,bv7,.map jl,.map qz,Mq,.hole,Mq,.map jl,.map qz]
def hw6:qh:=[bv6,eb,bv7,.map jl,.map qz,Mq,.hole,Mq]
def hw7:qh:=[bv9,eb,jxe,.map jl,.map qz,Mt,.hole,Mt,.map jl,.map qz]
def hw8:qh:=[bv9,eb,jxe,.map jl,.map qz,Mt,.hole,Mt]
def hw9:qh:=[jr8,eb,jti,.map jl,.map qz,Mu,.hole,Mu,.map jl,.map qz]
def zil:qh:=[jr8,eb,jti,.map jl,.map qz,Mu,.hole,Mu]
def zjg:qh:=[jsf,eb,jua,.map jl,.map qz,Mv,.hole,Mv,.map jl,.map qz]
def zir:qh:=[jsf,eb,jua,.map jl,.map qz,Mv,.hole,Mv]
def zcw:qh:=[jrb,eb,jqs,.map jl,.map qz,Mw,.hole,Mw,.map jl,.map qz]
def zff:qh:=[jrb,eb,jqs,.map jl,.map qz,Mw,.hole,Mw]
def zi7:qh:=[jrk,eb,jrt,.map jl,.map qz,My,.hole,My,.map jl,.map qz]
def zf3:qh:=[jrk,eb,jrt,.map jl,.map qz,My,.hole,My]
def jtb:qh:=[jtc,eb,jxi,.map jl,.map qz,MB,.hole,MB,.map jl,.map qz]
def jvc:qh:=[jtc,eb,jxi,.map jl,.map qz,MB,.hole,MB]
def jrd:qh:=[UH,eb,UI,.map jl,.map qz,EI,.hole,EI,.map jl,.map qz]
def Vf:qh:=[UH,eb,UI,.map jl,.map qz,EI,.hole,EI]
def zhk:qh:=[UH,eb,UI,.map jl,.map qz,EI,.hole,EI,.map jl]
def zib:qh:=[UJ,eb,UM,.map jl,.map qz,EL,.hole,EL,.map jl,.map qz]
def jty:qh:=[UJ,eb,UM,.map jl,.map qz,EL,.hole,EL]
def zdw:qh:=[UJ,eb,UM,.map jl,.map qz,EL,.hole,EL,.map jl]
def jsj:qh:=[UO,eb,IV,.map jl,.map qz,zM,.hole,zM,.map jl,.map qz]
def Vg:qh:=[UO,eb,IV,.map jl,.map qz,zM,.hole,zM]
def zgz:qh:=[UO,eb,IV,.map jl,.map qz,zM,.hole,zM,.map jl]
def za3:qh:=[jvn,eb,IV,.map jl,.map qz,zM,.hole,jt4,.map jl,.map qz]
def ze8:qh:=[jvn,eb,IV,.map jl,.map qz,zM,.hole,jt4]
def jrj:qh:=[jtf,eb,jv2,.map jl,.map qz,jw5,.hole,jwg,.map jl,.map qz]
def jt8:qh:=[jtf,eb,jv2,.map jl,.map qz,jw5,.hole,jwg]
def jsm:qh:=[jug,eb,EN,.map jl,.map qz,EO,.hole,jse,.map jl,.map qz]
def juy:qh:=[jug,eb,EN,.map jl,.map qz,EO,.hole,jse]
def zh2:qh:=[jq5,eb,EN,.map jl,.map qz,EO,.hole,jsx,.map jl,.map qz]
def zhn:qh:=[jq5,eb,EN,.map jl,.map qz,EO,.hole,jsx]
def zb0:qh:=[jrl,eb,EN,.map jl,.map qz,EO,.hole,jts,.map jl,.map qz]
def zbz:qh:=[jrl,eb,EN,.map jl,.map qz,EO,.hole,jts]
def js9:qh:=[jsb,eb,I4,.map jl,.map qz,I5,.hole,jra,.map jl,.map qz]
def jtr:qh:=[jsb,eb,I4,.map jl,.map qz,I5,.hole,jra]
def zhw:qh:=[UY,eb,I4,.map jl,.map qz,I5,.hole,UZ,.map jl,.map qz]
def I9:qh:=[UY,eb,I4,.map jl,.map qz,I5,.hole,UZ]
def MG:qh:=[UY,eb,I4,.map jl,.map qz,I5,.hole,UZ,.map jl]
def Vh:qh:=[U0,eb,U2,.map jl,.map qz,U3,.hole,U4,.map jl,.map qz]
def Vi:qh:=[U0,eb,U2,.map jl,.map qz,U3,.hole,U4]
def zis:qh:=[U0,eb,U2,.map jl,.map qz,U3,.hole,U4,.map jl]
def e1:Row:=([.list I 1 [Mn,BO,Ew,.str [49],.str [49,48]],hJ],.aI [BP,fS],I)
def e2:Row:=([BP],cn,I)
def e3:Row:=([zL,BP],.aI [Uq,cn],I)
def e4:Row:=([.list I 1 [Mn,wS,Ey,.str [49],.str [53]],vG],.aI [Ez,fS],I)
def e5:Row:=([Ez],cn,I)
def e6:Row:=([Uq,Ez],.aI [Ur,cn],I)
def e7:Row:=([.list I 1 [jq2,mQ,.str [49]],pT],.aI [EA,fS],I)
def e8:Row:=([EA],cn,I)
def e9:Row:=([Ur,EA],.aI [Us,cn],I)
def Vj:Row:=([.list I 1 [Ms,mQ,Ew,.str [49],.str [50]],Mr],.aI [EB,fS],I)
def Vk:Row:=([EB],cn,I)
def Vl:Row:=([Us,EB],.aI [Uu,cn],I)
def Vm:Row:=([.list I 1 [Ms,mQ,Ey,.str [49],.str [49]],BQ],.aI [EC,fS],I)
def Vn:Row:=([EC],cn,I)
def Vo:Row:=([Uu,EC],.aI [Uw,cn],I)
def Vp:Row:=([.list I 1 [jvd,mQ,BS,.str [49],.str [56,48],.str [57,48]],Uz],.aI [ED,fS],I)
def Vq:Row:=([ED],cn,I)
def Vr:Row:=([Uw,ED],.aI [Uy,cn],I)
def Vs:Row:=([.list I 1 ((jrm++[.str [50]])),UC],.aI [EE,fS],I)
def Vt:Row:=([EE],cn,I)
def Vu:Row:=([Uy,EE],.aI [UB,cn],I)
def Vv:Row:=([.list I 1 [jsd,pU,mQ,.str [51]],Mx],.aI [EF,fS],I)
def Vw:Row:=([EF],cn,I)
def Vx:Row:=([UB,EF],.aI [UE,cn],I)
def Vy:Row:=([.list I 1 ((jt6++[.str [50]])),UG],.aI [EG,fS],I)
def Vz:Row:=([EG],cn,I)
def VA:Row:=([UE,EG],.aI [Mz,cn],I)
def VB:Row:=([B0,wR],.aI [U5,fS],I)
def VC:Row:=([U5],cn,I)
def VD:Row:=([Mz,U5],.aI [zL,MF],I)
def VE:Row:=([.list I 1 ((jqt++[wS,.str [51],.str [49]])),wR],.aI [EH,fS],I)
def VF:Row:=([EH],cn,I)
def VG:Row:=([Mz,EH],.aI [MD,cn],I)
def VH:Row:=([B0,IQ],.aI [U6,fS],I)
def VI:Row:=([U6],cn,I)
def VJ:Row:=([MD,U6],U7,I)
def VK:Row:=([.list I 1 ((jrh++[.str [56,53]])),IQ],.aI [EK,fS],I)
def VL:Row:=([EK],cn,I)
def VM:Row:=([MD,EK],.aI [EJ,cn],I)
def VN:Row:=([.list I 1 [juz,wS,.str [51]],UR],.aI [EM,fS],I)
def VO:Row:=([EM],cn,I)
def VP:Row:=([EJ,EM],.aI [UQ,cn],I)
def VQ:Row:=([B0,IW],.aI [U8,fS],I)
def VR:Row:=([U8],cn,I)
def VS:Row:=([UQ,U8],.aI [zL,jlx],I)
def VT:Row:=([I7,IW],.aI [IY,fS],I)
def VU:Row:=([IY],cn,I)
def VW:Row:=([.list I 1 ((jrm++[.str [51]])),US],.aI [BV,fS],I)
def VX:Row:=([BV],cn,I)
def VY:Row:=([EJ,BV],.aI [ME,cn],I)
def VZ:Row:=([B0,IZ],.aI [U9,fS],I)
def V0:Row:=([U9],cn,I)
def V1:Row:=([ME,U9],.aI [zL,jmg],I)
def V2:Row:=([.list I 1 [jvm,pU,.str [51]],IZ],.aI [BW,fS],I)
def V3:Row:=([BW],cn,I)
def V4:Row:=([ME,BW],.aI [UT,cn],I)
def V5:Row:=([B0,I0],.aI [Va,fS],I)
def V6:Row:=([Va],cn,I)
def V7:Row:=([UT,Va],U7,I)
def V8:Row:=([I7,I0],.aI [I1,fS],I)
def V9:Row:=([I1],cn,I)
def Wa:Row:=([I7,UU],.aI [I2,fS],I)
def Wb:Row:=([I2],cn,I)
def Wc:Row:=([.list I 1 ((jrh++[.str [57,49]])),UX],.aI [BX,fS],I)
def Wd:Row:=([BX],cn,I)
def Wf:Row:=([EJ,BX],.aI [UW,cn],I)
def Wg:Row:=([B0,EP],.aI [Vb,fS],I)
def Wh:Row:=([Vb],cn,I)
def Wi:Row:=([UW,Vb],U7,I)
def Wj:Row:=([I7,EP],.aI [I6,fS],I)
def Wk:Row:=([I6],cn,I)
def Wl:Row:=([B0,MF],.aI [BZ,fS],I)
def Wm:Row:=([BZ],cn,I)
def Wn:Row:=([EJ,BZ],.aI [U1,cn],I)
def Wo:Row:=([I7,EQ],.aI [jmn,fS],I)
def Wp:Row:=([jmn],cn,I)
def Wq:Row:=([.list I 1 ((jt6++[.str [49]])),EQ],.aI [Vc,fS],I)
def Wr:Row:=([Vc],cn,I)
def Ws:Row:=([U1,Vc],.aI [zL,EQ],I)
def Wt:Row:=([BP],jmm,I)
def Wu:Row:=([jmm],.str [51,57,56,57,49,56,50],I)
def Wv:Row:=([Ez],jlp,I)
def Ww:Row:=([jlp],.str [48,49,55,50,54,57,55],I)
def Wx:Row:=([EA],jmd,I)
def Wy:Row:=([jmd],.str [54,49,49,52,48,56,52],I)
def Wz:Row:=([EB],jlr,I)
def WA:Row:=([jlr],.str [49,55,56,55,50,51,49],I)
def WB:Row:=([EC],jl3,I)
def WC:Row:=([jl3],.str [50,52,55,55,51,52,50],I)
def WD:Row:=([ED],jmj,I)
def WE:Row:=([jmj],.str [50,48,50,49,51,55,56],I)
def WG:Row:=([EE],jl6,I)
def WH:Row:=([jl6],.str [57,55,57,50,54,57,53],I)
def WI:Row:=([EF],jmf,I)
def WJ:Row:=([jmf],.str [48,55,51,51,57,54,55],I)
def WK:Row:=([EG],jlq,I)
def WL:Row:=([jlq],.str [57,54,50,56,50,52,50],I)
def WM:Row:=([EH],jmq,I)
def WN:Row:=([jmq],.str [51,51,55,48,50,52,48],I)
def WO:Row:=([EK],jlv,I)
def WQ:Row:=([jlv],.str [56,50,52,48,49,52,56],I)
def WR:Row:=([EM],jl2,I)
def WS:Row:=([jl2],.str [53,50,48,49,49,53,55],I)
def WT:Row:=([IY],jml,I)
def WU:Row:=([jml],.str [54,55,52,56,55,48,57],I)
def WV:Row:=([BV],jmk,I)
def WW:Row:=([jmk],.str [48,56,53,50,57,54,53],I)
def WX:Row:=([BW],jmp,I)
def WY:Row:=([jmp],.str [50,52,56,53,48,49,51],I)
def WZ:Row:=([I1],jmb,I)
def W0:Row:=([jmb],.str [56,51,50,54,51,57,51],I)
def W1:Row:=([I2],jmr,I)
def W2:Row:=([jmr],.str [50,49,56,53,54,57,53],I)
def W4:Row:=([BX],jme,I)
def W5:Row:=([jme],.str [50,51,54,49,51,49,55],I)
def W6:Row:=([I6],jl9,I)
def W7:Row:=([jl9],.str [57,57,48,52,48,55,55],I)
def W8:Row:=([BZ],jlz,I)
def W9:Row:=([jlz],.str [53,49,49,54,56,51,51],I)
def Xa:Row:=([.str [49,32,108,111,116,32,99,111,110,101,95,49,32,99,111,110,101,32,49,32,49,48,35,51,57,56,57,49,56,50],cn],.aI [BP,cn],I)
def Xb:Row:=([.str [50,32,108,111,116,32,99,111,105,108,95,49,32,99,111,105,108,32,49,32,53,35,48,49,55,50,54,57,55],hJ],.aI [Ez,cn],I)
def Xc:Row:=([.str [51,32,112,114,111,100,117,99,116,32,98,111,120,32,49,35,54,49,49,52,48,56,52],vG],.aI [EA,cn],I)
def Xd:Row:=([.str [52,32,110,101,101,100,32,98,111,120,32,99,111,110,101,32,49,32,50,35,49,55,56,55,50,51,49],pT],.aI [EB,cn],I)
def Xe:Row:=([.str [53,32,110,101,101,100,32,98,111,120,32,99,111,105,108,32,49,32,49,35,50,52,55,55,51,52,50],Mr],.aI [EC,cn],I)
def Xf:Row:=([.str [54,32,116,101,115,116,32,98,111,120,32,115,119,101,101,112,32,49,32,56,48,32,57,48,35,50,48,50,49,51,55,56],BQ],.aI [ED,cn],I)
def Xg:Row:=([.str [55,32,105,115,115,117,101,32,98,111,120,32,50,35,57,55,57,50,54,57,53],Uz],.aI [EE,cn],I)
def Xh:Row:=([.str [56,32,98,117,105,108,100,32,117,49,32,98,111,120,32,51,35,48,55,51,51,57,54,55],UC],.aI [EF,cn],I)
def Xi:Row:=([.str [57,32,117,115,101,32,117,49,32,99,111,110,101,95,49,32,51,32,50,35,57,54,50,56,50,52,50],Mx],.aI [EG,cn],I)
def Xj:Row:=([.str [49,48,32,117,115,101,32,117,49,32,99,111,105,108,95,49,32,51,32,49,35,51,51,55,48,50,52,48],UG],.aI [EH,cn],I)
def Xk:Row:=([.str [49,49,32,109,101,97,115,117,114,101,32,117,49,32,115,119,101,101,112,32,51,32,56,53,35,56,50,52,48,49,52,56],wR],.aI [EK,cn],I)
def Xl:Row:=([.str [49,50,32,104,111,108,100,32,99,111,105,108,95,49,32,51,35,53,50,48,49,49,53,55],IQ],.aI [EM,cn],I)
def Xm:Row:=([.str [49,51,32,117,110,100,111,35,54,55,52,56,55,48,57],UR],.aI [IY,cn],I)
def Xn:Row:=([.str [49,52,32,105,115,115,117,101,32,98,111,120,32,51,35,48,56,53,50,57,54,53],IW],.aI [BV,cn],I)
def Xo:Row:=([.str [49,53,32,117,112,100,97,116,101,32,117,49,32,51,35,50,52,56,53,48,49,51],US],.aI [BW,cn],I)
def Xp:Row:=([.str [49,54,32,117,110,100,111,35,56,51,50,54,51,57,51],IZ],.aI [I1,cn],I)
def Xq:Row:=([.str [49,55,32,117,110,100,111,35,50,49,56,53,54,57,53],I0],.aI [I2,cn],I)
def Xr:Row:=([.str [49,56,32,109,101,97,115,117,114,101,32,117,49,32,115,119,101,101,112,32,51,32,57,49,35,50,51,54,49,51,49,55],UU],.aI [BX,cn],I)
def Xt:Row:=([.str [49,57,32,117,110,100,111,35,57,57,48,52,48,55,55],UX],.aI [I6,cn],I)
def Xu:Row:=([.str [50,48,32,115,104,105,112,32,117,49,32,51,35,53,49,49,54,56,51,51],EP],.aI [BZ,cn],I)
def P0:Row:=([Vd,jw8],.aI [vH,cn],I)
def P1:Row:=([Vd,vH],.aI [.list I 1 [BO,wS],cn],I)
def P2:Row:=([.str [49,32,108,111,116,32,99,111,110,101,95,49,32,99,111,110,101,32,49,32,49,48,35,51,57,56,57,49,56,50,10,50,32,108,111,116,32,99,111,105,108,95,49,32,99,111,105,108,32,49,32,53,35,48,49,55,50,54,57,55,10,51,32,112,114,111,100,117,99,116,32,98,111,120,32,49,35,54,49,49,52,48,56,52,10,52,32,110,101,101,100,32,98,111,120,32,99,111,110,101,32,49,32,50,35,49,55,56,55,50,51,49,10,53,32,110,101,101,100,32,98,111,120,32,99,111,105,108,32,49,32,49,35,50,52,55,55,51,52,50,10,54,32,116,101,115,116,32,98,111,120,32,115,119,101,101,112,32,49,32,56,48,32,57,48,35,50,48,50,49,51,55,56,10,55,32,105,115,115,117,101,32,98,111,120,32,50,35,57,55,57,50,54,57,53,10,56,32,98,117,105,108,100,32,117,49,32,98,111,120,32,51,35,48,55,51,51,57,54,55,10,57,32,117,115,101,32,117,49,32,99,111,110,101,95,49,32,51,32,50,35,57,54,50,56,50,52,50,10,49,48,32,117,115,101,32,117,49,32,99,111,105,108,95,49,32,51,32,49,35,51,51,55,48,50,52,48,10,49,49,32,109,101,97,115,117,114,101,32,117,49,32,115,119,101,101,112,32,51,32,56,53,35,56,50,52,48,49,52,56,10,49,50,32,104,111,108,100,32,99,111,105,108,95,49,32,51,35,53,50,48,49,49,53,55,10,49,51,32,117,110,100,111,35,54,55,52,56,55,48,57,10,49,52,32,105,115,115,117,101,32,98,111,120,32,51,35,48,56,53,50,57,54,53,10,49,53,32,117,112,100,97,116,101,32,117,49,32,51,35,50,52,56,53,48,49,51,10,49,54,32,117,110,100,111,35,56,51,50,54,51,57,51,10,49,55,32,117,110,100,111,35,50,49,56,53,54,57,53,10,49,56,32,109,101,97,115,117,114,101,32,117,49,32,115,119,101,101,112,32,51,32,57,49,35,50,51,54,49,51,49,55,10,49,57,32,117,110,100,111,35,57,57,48,52,48,55,55,10,50,48,32,115,104,105,112,32,117,49,32,51,35,53,49,49,54,56,51,51,10,49]],.aI [Vd,.int .i64 500,.int .i64 29],I)
def r1:kf:=([.ptr 0 0,.str [108,111,116,32,99,111,110,101,95,49,32,99,111,110,101,32,49,32,49,48]],hw1,.aI [.str [100,111,110,101,32,49],cn],I,hw2)
def r2:kf:=([.ptr 0 0,.str [108,111,116,32,99,111,105,108,95,49,32,99,111,105,108,32,49,32,53]],hw2,.aI [.str [100,111,110,101,32,50],cn],I,hw3)
def r3:kf:=([.ptr 0 0,.str [112,114,111,100,117,99,116,32,98,111,120,32,49]],hw4,.aI [.str [100,111,110,101,32,51],cn],I,hw5)
def r4:kf:=([.ptr 0 0,.str [110,101,101,100,32,98,111,120,32,99,111,110,101,32,49,32,50]],hw6,.aI [.str [100,111,110,101,32,52],cn],I,hw7)
def r5:kf:=([.ptr 0 0,.str [110,101,101,100,32,98,111,120,32,99,111,105,108,32,49,32,49]],hw8,.aI [.str [100,111,110,101,32,53],cn],I,hw9)
def r6:kf:=([.ptr 0 0,.str [116,101,115,116,32,98,111,120,32,115,119,101,101,112,32,49,32,56,48,32,57,48]],zil,.aI [.str [100,111,110,101,32,54],cn],I,zjg)
def r7:kf:=([.ptr 0 0,.str [105,115,115,117,101,32,98,111,120,32,50]],zir,.aI [.str [100,111,110,101,32,55],cn],I,zcw)
def r8:kf:=([.ptr 0 0,.str [98,117,105,108,100,32,117,49,32,98,111,120,32,51]],zff,.aI [.str [100,111,110,101,32,56],cn],I,zi7)
def r9:kf:=([.ptr 0 0,.str [117,115,101,32,117,49,32,99,111,110,101,95,49,32,51,32,50]],zf3,.aI [.str [100,111,110,101,32,57],cn],I,jtb)
def JQ:kf:=(B1,jvc,.aI [.str [],MF],I,jtb)
def JU:kf:=([.ptr 0 0,.str [117,115,101,32,117,49,32,99,111,105,108,95,49,32,51,32,49]],jvc,.aI [.str [100,111,110,101,32,49,48],cn],I,jrd)
def JY:kf:=(B1,Vf,Ve,I,jrd)
def J2:kf:=(jq7,Vf,.aI [BS,cn],I,zhk)
def J5:kf:=([.ptr 0 0,.str [109,101,97,115,117,114,101,32,117,49,32,115,119,101,101,112,32,51,32,56,53]],Vf,.aI [.str [100,111,110,101,32,49,49],cn],I,zib)
def J8:kf:=(jq7,jty,jls,I,zdw)
def Kb:kf:=([.ptr 0 0,.str [104,111,108,100,32,99,111,105,108,95,49,32,51]],jty,.aI [.str [100,111,110,101,32,49,50],cn],I,jsj)
def JN:kf:=(B1,Vg,.aI [.str [],jlx],I,jsj)
def JR:kf:=(jrc,Vg,.aI [.str [48],cn],I,zgz)
def JV:kf:=(I8,Vg,.aI [.str [100,111,110,101,32,49,51],cn],I,za3)
def JZ:kf:=([.ptr 0 0,.str [105,115,115,117,101,32,98,111,120,32,51]],ze8,.aI [.str [100,111,110,101,32,49,52],cn],I,jrj)
def J3:kf:=(B1,jt8,.aI [.str [],jmg],I,jrj)
def J6:kf:=([.ptr 0 0,.str [117,112,100,97,116,101,32,117,49,32,51]],jt8,.aI [.str [100,111,110,101,32,49,53],cn],I,jsm)
def J9:kf:=(B1,juy,Ve,I,jsm)
def Kc:kf:=(I8,juy,.aI [.str [100,111,110,101,32,49,54],cn],I,zh2)
def JO:kf:=(I8,zhn,.aI [.str [100,111,110,101,32,49,55],cn],I,zb0)
def JS:kf:=([.ptr 0 0,.str [109,101,97,115,117,114,101,32,117,49,32,115,119,101,101,112,32,51,32,57,49]],zbz,.aI [.str [100,111,110,101,32,49,56],cn],I,js9)
def JW:kf:=(B1,jtr,Ve,I,js9)
def J0:kf:=(I8,jtr,.aI [.str [100,111,110,101,32,49,57],cn],I,zhw)
def J4:kf:=([.ptr 0 0,.str [108,111,116,115,32,117,49]],I9,.aI [.str [99,111,110,101,95,49,32,99,111,105,108,95,49],cn],I,MG)
def J7:kf:=([.ptr 0 0,.str [115,116,111,99,107,32,99,111,110,101]],I9,.aI [.str [56],cn],I,MG)
def Ka:kf:=(jrc,I9,.aI [.str [52],cn],I,MG)
def Ke:kf:=(js7,I9,jls,I,MG)
def JP:kf:=(B1,I9,.aI [.str [100,111,110,101,32,50,48],cn],I,Vh)
def JT:kf:=(I8,Vi,.aI [.str [],EP],I,Vh)
def JX:kf:=([.ptr 0 0,.str [117,115,101,32,117,49,32,99,111,110,101,95,49,32,51,32,49]],Vi,.aI [.str [],EQ],I,Vh)
def J1:kf:=(js7,Vi,.aI [pU,cn],I,zis)
theorem w21:qc bM xL 113 Vu.1=En Vu.2:=by kernel_rfl
theorem w25:qc bM xL 102 Vy.1=En Vy.2:=by kernel_rfl
theorem w26:qc bM xL 47 Vz.1=En Vz.2:=by kernel_rfl
theorem w37:qc bM xL 102 VK.1=En VK.2:=by kernel_rfl
theorem w48:qc bM xL 102 VW.1=En VW.2:=by kernel_rfl
theorem w51:qc bM xL 102 VZ.1=En VZ.2:=by kernel_rfl
theorem w56:qc bM xL 113 V4.1=En V4.2:=by kernel_rfl
theorem w74:qc bM xL 113 Wn.1=En Wn.2:=by kernel_rfl
theorem w82:qc bM xL 137 Wv.1=En Wv.2:=by kernel_rfl
theorem w90:qc bM xL 137 WD.1=En WD.2:=by kernel_rfl
theorem w93:qc bM xL 138 WH.1=En WH.2:=by kernel_rfl
theorem zeu:qc bM xL 138 W0.1=En W0.2:=by kernel_rfl
theorem zhv:qc bM xL 138 W5.1=En W5.2:=by kernel_rfl
theorem zjl:qc bM xL 137 W6.1=En W6.2:=by kernel_rfl
theorem zbn:qc bM xL 137 W8.1=En W8.2:=by kernel_rfl
theorem zfk:qc bM xL 85 Xb.1=En Xb.2:=by kernel_rfl
theorem zji:qc bM xL 85 Xj.1=En Xj.2:=by kernel_rfl
theorem zbc:qc bM xL 85 Xp.1=En Xp.2:=by kernel_rfl
theorem w4:qc bM xL 102 e4.1=En e4.2:=by kernel_rfl
theorem w11:qc bM xL 47 Vk.1=En Vk.2:=by kernel_rfl
theorem w18:qc bM xL 113 Vr.1=En Vr.2:=by kernel_rfl
theorem w19:qc bM xL 102 Vs.1=En Vs.2:=by kernel_rfl
theorem w29:qc bM xL 47 VC.1=En VC.2:=by kernel_rfl
theorem w38:qc bM xL 47 VL.1=En VL.2:=by kernel_rfl
theorem w45:qc bM xL 113 VS.1=En VS.2:=by kernel_rfl
theorem w46:qc bM xL 102 VT.1=En VT.2:=by kernel_rfl
theorem w53:qc bM xL 113 V1.1=En V1.2:=by kernel_rfl
theorem w57:qc bM xL 102 V5.1=En V5.2:=by kernel_rfl
theorem w61:qc bM xL 47 V9.1=En V9.2:=by kernel_rfl
theorem w64:qc bM xL 102 Wc.1=En Wc.2:=by kernel_rfl
theorem w91:qc bM xL 138 WE.1=En WE.2:=by kernel_rfl
theorem w96:qc bM xL 137 WK.1=En WK.2:=by kernel_rfl
theorem zep:qc bM xL 138 W2.1=En W2.2:=by kernel_rfl
theorem zen:qc bM xL 85 Xd.1=En Xd.2:=by kernel_rfl
theorem zdg:qc bM xL 85 Xl.1=En Xl.2:=by kernel_rfl
theorem zei:qc bM xL 85 Xq.1=En Xq.2:=by kernel_rfl
theorem w14:qc bM xL 47 Vn.1=En Vn.2:=by kernel_rfl
theorem w15:qc bM xL 113 Vo.1=En Vo.2:=by kernel_rfl
theorem w16:qc bM xL 102 Vp.1=En Vp.2:=by kernel_rfl
theorem w35:qc bM xL 47 VI.1=En VI.2:=by kernel_rfl
theorem w39:qc bM xL 113 VM.1=En VM.2:=by kernel_rfl
theorem w49:qc bM xL 47 VX.1=En VX.2:=by kernel_rfl
theorem w54:qc bM xL 102 V2.1=En V2.2:=by kernel_rfl
theorem w59:qc bM xL 113 V7.1=En V7.2:=by kernel_rfl
theorem w60:qc bM xL 102 V8.1=En V8.2:=by kernel_rfl
theorem w63:qc bM xL 47 Wb.1=En Wb.2:=by kernel_rfl
theorem w65:qc bM xL 47 Wd.1=En Wd.2:=by kernel_rfl
theorem w67:qc bM xL 102 Wg.1=En Wg.2:=by kernel_rfl
theorem zjc:qc bM xL 138 W7.1=En W7.2:=by kernel_rfl
theorem zdh:qc bM xL 85 Xa.1=En Xa.2:=by kernel_rfl
theorem zjj:qc bM xL 85 Xe.1=En Xe.2:=by kernel_rfl
theorem zg7:qc bM xL 85 Xg.1=En Xg.2:=by kernel_rfl
theorem zi4:qc bM xL 85 Xh.1=En Xh.2:=by kernel_rfl
theorem zb8:qc bM xL 85 Xt.1=En Xt.2:=by kernel_rfl
theorem w7:qc bM xL 102 e7.1=En e7.2:=by kernel_rfl
theorem w8:qc bM xL 47 e8.1=En e8.2:=by kernel_rfl
theorem w10:qc bM xL 102 Vj.1=En Vj.2:=by kernel_rfl
theorem w12:qc bM xL 113 Vl.1=En Vl.2:=by kernel_rfl
theorem w36:qc bM xL 113 VJ.1=En VJ.2:=by kernel_rfl
theorem w44:qc bM xL 47 VR.1=En VR.2:=by kernel_rfl
theorem w62:qc bM xL 102 Wa.1=En Wa.2:=by kernel_rfl
theorem w69:qc bM xL 113 Wi.1=En Wi.2:=by kernel_rfl
theorem w71:qc bM xL 47 Wk.1=En Wk.2:=by kernel_rfl
theorem w72:qc bM xL 102 Wl.1=En Wl.2:=by kernel_rfl
theorem w83:qc bM xL 138 Ww.1=En Ww.2:=by kernel_rfl
theorem w86:qc bM xL 137 Wz.1=En Wz.2:=by kernel_rfl
theorem w95:qc bM xL 138 WJ.1=En WJ.2:=by kernel_rfl
theorem zf1:qc bM xL 137 WO.1=En WO.2:=by kernel_rfl
theorem zh5:qc bM xL 137 WV.1=En WV.2:=by kernel_rfl
theorem zck:qc bM xL 85 Xc.1=En Xc.2:=by kernel_rfl
theorem zih:qc bM xL 85 Xk.1=En Xk.2:=by kernel_rfl
theorem w9:qc bM xL 113 e9.1=En e9.2:=by kernel_rfl
theorem w13:qc bM xL 102 Vm.1=En Vm.2:=by kernel_rfl
theorem w20:qc bM xL 47 Vt.1=En Vt.2:=by kernel_rfl
theorem w22:qc bM xL 102 Vv.1=En Vv.2:=by kernel_rfl
theorem w33:qc bM xL 113 VG.1=En VG.2:=by kernel_rfl
theorem w40:qc bM xL 102 VN.1=En VN.2:=by kernel_rfl
theorem w41:qc bM xL 47 VO.1=En VO.2:=by kernel_rfl
theorem w52:qc bM xL 47 V0.1=En V0.2:=by kernel_rfl
theorem w66:qc bM xL 113 Wf.1=En Wf.2:=by kernel_rfl
theorem w70:qc bM xL 102 Wj.1=En Wj.2:=by kernel_rfl
theorem w76:qc bM xL 47 Wp.1=En Wp.2:=by kernel_rfl
theorem w87:qc bM xL 138 WA.1=En WA.2:=by kernel_rfl
theorem w88:qc bM xL 137 WB.1=En WB.2:=by kernel_rfl
theorem w99:qc bM xL 138 WN.1=En WN.2:=by kernel_rfl
theorem zgd:qc bM xL 138 WS.1=En WS.2:=by kernel_rfl
theorem zd7:qc bM xL 137 W4.1=En W4.2:=by kernel_rfl
theorem zcp:qc bM xL 85 Xr.1=En Xr.2:=by kernel_rfl
theorem w2:qc bM xL 47 e2.1=En e2.2:=by kernel_rfl
theorem w6:qc bM xL 113 e6.1=En e6.2:=by kernel_rfl
theorem w28:qc bM xL 102 VB.1=En VB.2:=by kernel_rfl
theorem w30:qc bM xL 113 VD.1=En VD.2:=by kernel_rfl
theorem w32:qc bM xL 47 VF.1=En VF.2:=by kernel_rfl
theorem w55:qc bM xL 47 V3.1=En V3.2:=by kernel_rfl
theorem w58:qc bM xL 47 V6.1=En V6.2:=by kernel_rfl
theorem w75:qc bM xL 102 Wo.1=En Wo.2:=by kernel_rfl
theorem w79:qc bM xL 113 Ws.1=En Ws.2:=by kernel_rfl
theorem w84:qc bM xL 137 Wx.1=En Wx.2:=by kernel_rfl
theorem w85:qc bM xL 138 Wy.1=En Wy.2:=by kernel_rfl
theorem w89:qc bM xL 138 WC.1=En WC.2:=by kernel_rfl
theorem za1:qc bM xL 137 WT.1=En WT.2:=by kernel_rfl
theorem zgn:qc bM xL 85 Xf.1=En Xf.2:=by kernel_rfl
theorem zf8:qc bM xL 85 Xi.1=En Xi.2:=by kernel_rfl
theorem zew:qc bM xL 85 Xn.1=En Xn.2:=by kernel_rfl
theorem ze7:qc bM xL 85 Xu.1=En Xu.2:=by kernel_rfl
theorem w3:qc bM xL 113 e3.1=En e3.2:=by kernel_rfl
theorem w23:qc bM xL 47 Vw.1=En Vw.2:=by kernel_rfl
theorem w27:qc bM xL 113 VA.1=En VA.2:=by kernel_rfl
theorem w31:qc bM xL 102 VE.1=En VE.2:=by kernel_rfl
theorem w34:qc bM xL 102 VH.1=En VH.2:=by kernel_rfl
theorem w42:qc bM xL 113 VP.1=En VP.2:=by kernel_rfl
theorem w68:qc bM xL 47 Wh.1=En Wh.2:=by kernel_rfl
theorem w78:qc bM xL 47 Wr.1=En Wr.2:=by kernel_rfl
theorem w80:qc bM xL 137 Wt.1=En Wt.2:=by kernel_rfl
theorem w81:qc bM xL 138 Wu.1=En Wu.2:=by kernel_rfl
theorem w92:qc bM xL 137 WG.1=En WG.2:=by kernel_rfl
theorem w97:qc bM xL 138 WL.1=En WL.2:=by kernel_rfl
theorem zg3:qc bM xL 137 WR.1=En WR.2:=by kernel_rfl
theorem zdk:qc bM xL 138 WW.1=En WW.2:=by kernel_rfl
theorem zbv:qc bM xL 137 WZ.1=En WZ.2:=by kernel_rfl
theorem zge:qc bM xL 138 W9.1=En W9.2:=by kernel_rfl
theorem zce:qc bM xL 85 Xo.1=En Xo.2:=by kernel_rfl
theorem w1:qc bM xL 102 e1.1=En e1.2:=by kernel_rfl
theorem w5:qc bM xL 47 e5.1=En e5.2:=by kernel_rfl
theorem w17:qc bM xL 47 Vq.1=En Vq.2:=by kernel_rfl
theorem w24:qc bM xL 113 Vx.1=En Vx.2:=by kernel_rfl
theorem w43:qc bM xL 102 VQ.1=En VQ.2:=by kernel_rfl
theorem w47:qc bM xL 47 VU.1=En VU.2:=by kernel_rfl
theorem w50:qc bM xL 113 VY.1=En VY.2:=by kernel_rfl
theorem w73:qc bM xL 47 Wm.1=En Wm.2:=by kernel_rfl
theorem w77:qc bM xL 102 Wq.1=En Wq.2:=by kernel_rfl
theorem w94:qc bM xL 137 WI.1=En WI.2:=by kernel_rfl
theorem w98:qc bM xL 137 WM.1=En WM.2:=by kernel_rfl
theorem zg0:qc bM xL 138 WQ.1=En WQ.2:=by kernel_rfl
theorem zgb:qc bM xL 138 WU.1=En WU.2:=by kernel_rfl
theorem zc8:qc bM xL 137 WX.1=En WX.2:=by kernel_rfl
theorem zeq:qc bM xL 138 WY.1=En WY.2:=by kernel_rfl
theorem zeh:qc bM xL 137 W1.1=En W1.2:=by kernel_rfl
theorem zec:qc bM xL 85 Xm.1=En Xm.2:=by kernel_rfl
end Go.Z
namespace Go.Z
open Go Go.Abs Go.Proofs
def Xv:List (Nat×List Row):=[(47,[e2,e5,e8,Vk,Vn,Vq,Vt,Vw,Vz,VC,VF,VI,VL,VO,VR,VU,VX,V0,V3,V6,V9,Wb,Wd,Wh,Wk,Wm,Wp,Wr]),(85,[Xa,Xb,Xc,Xd,Xe,Xf,Xg,Xh,Xi,Xj,Xk,Xl,Xm,Xn,Xo,Xp,Xq,Xr,Xt,Xu]),(113,[e3,e6,e9,Vl,Vo,Vr,Vu,Vx,VA,VD,VG,VJ,VM,VP,VS,VY,V1,V4,V7,Wf,Wi,Wn,Ws]),(102,[e1,e4,e7,Vj,Vm,Vp,Vs,Vv,Vy,VB,VE,VH,VK,VN,VQ,VT,VW,VZ,V2,V5,V8,Wa,Wc,Wg,Wj,Wl,Wo,Wq]),(137,[Wt,Wv,Wx,Wz,WB,WD,WG,WI,WK,WM,WO,WR,WT,WV,WX,WZ,W1,W4,W6,W8]),(138,[Wu,Ww,Wy,WA,WC,WE,WH,WJ,WL,WN,WQ,WS,WU,WW,WY,W0,W2,W5,W7,W9])]
def tab:Nat→Option (List Row):=xD Xv
theorem jzu:P4 Tryz.prog tab:=
 P5 (t:=Xv) ⟨⟨qg bP w2,qg bP w5,qg bP w8,qg bP w11,qg bP w14,qg bP w17,qg bP w20,qg bP w23,qg bP w26,qg bP w29,qg bP w32,qg bP w35,qg bP w38,qg bP w41,qg bP w44,qg bP w47,qg bP w49,qg bP w52,qg bP w55,qg bP w58,qg bP w61,qg bP w63,qg bP w65,qg bP w68,qg bP w71,qg bP w73,qg bP w76,qg bP w78,trivial⟩,⟨qg bP zdh,qg bP zfk,qg bP zck,qg bP zen,qg bP zjj,qg bP zgn,qg bP zg7,qg bP zi4,qg bP zf8,qg bP zji,qg bP zih,qg bP zdg,qg bP zec,qg bP zew,qg bP zce,qg bP zbc,qg bP zei,qg bP zcp,qg bP zb8,qg bP ze7,trivial⟩,⟨qg bP w3,qg bP w6,qg bP w9,qg bP w12,qg bP w15,qg bP w18,qg bP w21,qg bP w24,qg bP w27,qg bP w30,qg bP w33,qg bP w36,qg bP w39,qg bP w42,qg bP w45,qg bP w50,qg bP w53,qg bP w56,qg bP w59,qg bP w66,qg bP w69,qg bP w74,qg bP w79,trivial⟩,⟨qg bP w1,qg bP w4,qg bP w7,qg bP w10,qg bP w13,qg bP w16,qg bP w19,qg bP w22,qg bP w25,qg bP w28,qg bP w31,qg bP w34,qg bP w37,qg bP w40,qg bP w43,qg bP w46,qg bP w48,qg bP w51,qg bP w54,qg bP w57,qg bP w60,qg bP w62,qg bP w64,qg bP w67,qg bP w70,qg bP w72,qg bP w75,qg bP w77,trivial⟩,⟨qg bP w80,qg bP w82,qg bP w84,qg bP w86,qg bP w88,qg bP w90,qg bP w92,qg bP w94,qg bP w96,qg bP w98,qg bP zf1,qg bP zg3,qg bP za1,qg bP zh5,qg bP zc8,qg bP zbv,qg bP zeh,qg bP zd7,qg bP zjl,qg bP zbn,trivial⟩,⟨qg bP w81,qg bP w83,qg bP w85,qg bP w87,qg bP w89,qg bP w91,qg bP w93,qg bP w95,qg bP w97,qg bP w99,qg bP zg0,qg bP zgd,qg bP zgb,qg bP zdk,qg bP zeq,qg bP zeu,qg bP zep,qg bP zhv,qg bP zjc,qg bP zge,trivial⟩,trivial⟩
def dZ:jz:={ bG:=bM.bG,cO:=fun k=>match tab k with
 |some l=>En fun args=>Df args l
 |none=>Uk k,dL:=bM.dL,maps:=bM.maps }
theorem ef:b6 Tryz.prog dZ where
 fn:=bP.fn
 iK:=by
  intro k f hf
  simp only[dZ]at hf
  split at hf
  ·rename_i l hl
   cases hf
   exact⟨uE (P6 Xv (by kernel_rfl) k l hl),fun args v o hv _ _=>jzu k l hl _ (P7 hv)⟩
  ·exact bP.iK k f hf
 mixed:=bP.mixed
 fT:=bP.fT
 maps:=bP.maps
abbrev xA:=iL dZ 1000
end Go.Z
