/-
  LineTutte: the same for eight numbers (the pieces joined).
-/
import Derived.Test.YtbkpojiedkhfkaaGreatU2a
import Derived.Test.YtbkpojiedkhfkaaGreatU2b
import Derived.Test.YtbkpojiedkhfkaaGreatU2c
import Derived.Test.YtbkpojiedkhfkaaGreatU1
import Derived.Test.YtbkpojiedkhfkaaGreatK4
set_option linter.unusedVariables false
set_option linter.unusedSimpArgs false
set_option maxRecDepth 100000
namespace Go.Z
theorem d8_TTTFTFF:walkP [true,true,true,false,true,false,false] 64 P8 C8=true:=walk_join [true,true,true,false,true,false,false] (by decide) d8_TTTFTFFT d8_TTTFTFFF
theorem d8_TTTFTF:walkP [true,true,true,false,true,false] 64 P8 C8=true:=walk_join [true,true,true,false,true,false] (by decide) d8_TTTFTFT d8_TTTFTFF
theorem d8_TTTFT:walkP [true,true,true,false,true] 64 P8 C8=true:=walk_join [true,true,true,false,true] (by decide) d8_TTTFTT d8_TTTFTF
theorem d8_TTTFFF:walkP [true,true,true,false,false,false] 64 P8 C8=true:=walk_join [true,true,true,false,false,false] (by decide) d8_TTTFFFT d8_TTTFFFF
theorem d8_TTTFF:walkP [true,true,true,false,false] 64 P8 C8=true:=walk_join [true,true,true,false,false] (by decide) d8_TTTFFT d8_TTTFFF
theorem d8_TTTF:walkP [true,true,true,false] 64 P8 C8=true:=walk_join [true,true,true,false] (by decide) d8_TTTFT d8_TTTFF
theorem d8_TTT:walkP [true,true,true] 64 P8 C8=true:=walk_join [true,true,true] (by decide) d8_TTTT d8_TTTF
theorem d8_TTFTFFF:walkP [true,true,false,true,false,false,false] 64 P8 C8=true:=walk_join [true,true,false,true,false,false,false] (by decide) d8_TTFTFFFT d8_TTFTFFFF
theorem d8_TTFTFF:walkP [true,true,false,true,false,false] 64 P8 C8=true:=walk_join [true,true,false,true,false,false] (by decide) d8_TTFTFFT d8_TTFTFFF
theorem d8_TTFTF:walkP [true,true,false,true,false] 64 P8 C8=true:=walk_join [true,true,false,true,false] (by decide) d8_TTFTFT d8_TTFTFF
theorem d8_TTFT:walkP [true,true,false,true] 64 P8 C8=true:=walk_join [true,true,false,true] (by decide) d8_TTFTT d8_TTFTF
theorem d8_TTFFTT:walkP [true,true,false,false,true,true] 64 P8 C8=true:=walk_join [true,true,false,false,true,true] (by decide) d8_TTFFTTT d8_TTFFTTF
theorem d8_TTFFTF:walkP [true,true,false,false,true,false] 64 P8 C8=true:=walk_join [true,true,false,false,true,false] (by decide) d8_TTFFTFT d8_TTFFTFF
theorem d8_TTFFT:walkP [true,true,false,false,true] 64 P8 C8=true:=walk_join [true,true,false,false,true] (by decide) d8_TTFFTT d8_TTFFTF
theorem d8_TTFFFT:walkP [true,true,false,false,false,true] 64 P8 C8=true:=walk_join [true,true,false,false,false,true] (by decide) d8_TTFFFTT d8_TTFFFTF
theorem d8_TTFFF:walkP [true,true,false,false,false] 64 P8 C8=true:=walk_join [true,true,false,false,false] (by decide) d8_TTFFFT d8_TTFFFF
theorem d8_TTFF:walkP [true,true,false,false] 64 P8 C8=true:=walk_join [true,true,false,false] (by decide) d8_TTFFT d8_TTFFF
theorem d8_TTF:walkP [true,true,false] 64 P8 C8=true:=walk_join [true,true,false] (by decide) d8_TTFT d8_TTFF
theorem d8_TT:walkP [true,true] 64 P8 C8=true:=walk_join [true,true] (by decide) d8_TTT d8_TTF
theorem d8_TFTTFT:walkP [true,false,true,true,false,true] 64 P8 C8=true:=walk_join [true,false,true,true,false,true] (by decide) d8_TFTTFTT d8_TFTTFTF
theorem d8_TFTTFF:walkP [true,false,true,true,false,false] 64 P8 C8=true:=walk_join [true,false,true,true,false,false] (by decide) d8_TFTTFFT d8_TFTTFFF
theorem d8_TFTTF:walkP [true,false,true,true,false] 64 P8 C8=true:=walk_join [true,false,true,true,false] (by decide) d8_TFTTFT d8_TFTTFF
theorem d8_TFTT:walkP [true,false,true,true] 64 P8 C8=true:=walk_join [true,false,true,true] (by decide) d8_TFTTT d8_TFTTF
theorem d8_TFTFTTF:walkP [true,false,true,false,true,true,false] 64 P8 C8=true:=walk_join [true,false,true,false,true,true,false] (by decide) d8_TFTFTTFT d8_TFTFTTFF
theorem d8_TFTFTT:walkP [true,false,true,false,true,true] 64 P8 C8=true:=walk_join [true,false,true,false,true,true] (by decide) d8_TFTFTTT d8_TFTFTTF
theorem d8_TFTFTF:walkP [true,false,true,false,true,false] 64 P8 C8=true:=walk_join [true,false,true,false,true,false] (by decide) d8_TFTFTFT d8_TFTFTFF
theorem d8_TFTFT:walkP [true,false,true,false,true] 64 P8 C8=true:=walk_join [true,false,true,false,true] (by decide) d8_TFTFTT d8_TFTFTF
theorem d8_TFTFFFF:walkP [true,false,true,false,false,false,false] 64 P8 C8=true:=walk_join [true,false,true,false,false,false,false] (by decide) d8_TFTFFFFT d8_TFTFFFFF
theorem d8_TFTFFF:walkP [true,false,true,false,false,false] 64 P8 C8=true:=walk_join [true,false,true,false,false,false] (by decide) d8_TFTFFFT d8_TFTFFFF
theorem d8_TFTFF:walkP [true,false,true,false,false] 64 P8 C8=true:=walk_join [true,false,true,false,false] (by decide) d8_TFTFFT d8_TFTFFF
theorem d8_TFTF:walkP [true,false,true,false] 64 P8 C8=true:=walk_join [true,false,true,false] (by decide) d8_TFTFT d8_TFTFF
theorem d8_TFT:walkP [true,false,true] 64 P8 C8=true:=walk_join [true,false,true] (by decide) d8_TFTT d8_TFTF
theorem d8_TFFTTF:walkP [true,false,false,true,true,false] 64 P8 C8=true:=walk_join [true,false,false,true,true,false] (by decide) d8_TFFTTFT d8_TFFTTFF
theorem d8_TFFTT:walkP [true,false,false,true,true] 64 P8 C8=true:=walk_join [true,false,false,true,true] (by decide) d8_TFFTTT d8_TFFTTF
theorem d8_TFFTFT:walkP [true,false,false,true,false,true] 64 P8 C8=true:=walk_join [true,false,false,true,false,true] (by decide) d8_TFFTFTT d8_TFFTFTF
theorem d8_TFFTF:walkP [true,false,false,true,false] 64 P8 C8=true:=walk_join [true,false,false,true,false] (by decide) d8_TFFTFT d8_TFFTFF
theorem d8_TFFT:walkP [true,false,false,true] 64 P8 C8=true:=walk_join [true,false,false,true] (by decide) d8_TFFTT d8_TFFTF
theorem d8_TFFFT:walkP [true,false,false,false,true] 64 P8 C8=true:=walk_join [true,false,false,false,true] (by decide) d8_TFFFTT d8_TFFFTF
theorem d8_TFFFF:walkP [true,false,false,false,false] 64 P8 C8=true:=walk_join [true,false,false,false,false] (by decide) d8_TFFFFT d8_TFFFFF
theorem d8_TFFF:walkP [true,false,false,false] 64 P8 C8=true:=walk_join [true,false,false,false] (by decide) d8_TFFFT d8_TFFFF
theorem d8_TFF:walkP [true,false,false] 64 P8 C8=true:=walk_join [true,false,false] (by decide) d8_TFFT d8_TFFF
theorem d8_TF:walkP [true,false] 64 P8 C8=true:=walk_join [true,false] (by decide) d8_TFT d8_TFF
theorem d8_T:walkP [true] 64 P8 C8=true:=walk_join [true] (by decide) d8_TT d8_TF
theorem d8_FTTTFF:walkP [false,true,true,true,false,false] 64 P8 C8=true:=walk_join [false,true,true,true,false,false] (by decide) d8_FTTTFFT d8_FTTTFFF
theorem d8_FTTTF:walkP [false,true,true,true,false] 64 P8 C8=true:=walk_join [false,true,true,true,false] (by decide) d8_FTTTFT d8_FTTTFF
theorem d8_FTTT:walkP [false,true,true,true] 64 P8 C8=true:=walk_join [false,true,true,true] (by decide) d8_FTTTT d8_FTTTF
theorem d8_FTTFTFF:walkP [false,true,true,false,true,false,false] 64 P8 C8=true:=walk_join [false,true,true,false,true,false,false] (by decide) d8_FTTFTFFT d8_FTTFTFFF
theorem d8_FTTFTF:walkP [false,true,true,false,true,false] 64 P8 C8=true:=walk_join [false,true,true,false,true,false] (by decide) d8_FTTFTFT d8_FTTFTFF
theorem d8_FTTFT:walkP [false,true,true,false,true] 64 P8 C8=true:=walk_join [false,true,true,false,true] (by decide) d8_FTTFTT d8_FTTFTF
theorem d8_FTTFFT:walkP [false,true,true,false,false,true] 64 P8 C8=true:=walk_join [false,true,true,false,false,true] (by decide) d8_FTTFFTT d8_FTTFFTF
theorem d8_FTTFF:walkP [false,true,true,false,false] 64 P8 C8=true:=walk_join [false,true,true,false,false] (by decide) d8_FTTFFT d8_FTTFFF
theorem d8_FTTF:walkP [false,true,true,false] 64 P8 C8=true:=walk_join [false,true,true,false] (by decide) d8_FTTFT d8_FTTFF
theorem d8_FTT:walkP [false,true,true] 64 P8 C8=true:=walk_join [false,true,true] (by decide) d8_FTTT d8_FTTF
theorem d8_FTFTTF:walkP [false,true,false,true,true,false] 64 P8 C8=true:=walk_join [false,true,false,true,true,false] (by decide) d8_FTFTTFT d8_FTFTTFF
theorem d8_FTFTT:walkP [false,true,false,true,true] 64 P8 C8=true:=walk_join [false,true,false,true,true] (by decide) d8_FTFTTT d8_FTFTTF
theorem d8_FTFTFT:walkP [false,true,false,true,false,true] 64 P8 C8=true:=walk_join [false,true,false,true,false,true] (by decide) d8_FTFTFTT d8_FTFTFTF
theorem d8_FTFTF:walkP [false,true,false,true,false] 64 P8 C8=true:=walk_join [false,true,false,true,false] (by decide) d8_FTFTFT d8_FTFTFF
theorem d8_FTFT:walkP [false,true,false,true] 64 P8 C8=true:=walk_join [false,true,false,true] (by decide) d8_FTFTT d8_FTFTF
theorem d8_FTFFT:walkP [false,true,false,false,true] 64 P8 C8=true:=walk_join [false,true,false,false,true] (by decide) d8_FTFFTT d8_FTFFTF
theorem d8_FTFFF:walkP [false,true,false,false,false] 64 P8 C8=true:=walk_join [false,true,false,false,false] (by decide) d8_FTFFFT d8_FTFFFF
theorem d8_FTFF:walkP [false,true,false,false] 64 P8 C8=true:=walk_join [false,true,false,false] (by decide) d8_FTFFT d8_FTFFF
theorem d8_FTF:walkP [false,true,false] 64 P8 C8=true:=walk_join [false,true,false] (by decide) d8_FTFT d8_FTFF
theorem d8_FT:walkP [false,true] 64 P8 C8=true:=walk_join [false,true] (by decide) d8_FTT d8_FTF
theorem d8_FFTTTF:walkP [false,false,true,true,true,false] 64 P8 C8=true:=walk_join [false,false,true,true,true,false] (by decide) d8_FFTTTFT d8_FFTTTFF
theorem d8_FFTTT:walkP [false,false,true,true,true] 64 P8 C8=true:=walk_join [false,false,true,true,true] (by decide) d8_FFTTTT d8_FFTTTF
theorem d8_FFTTFTF:walkP [false,false,true,true,false,true,false] 64 P8 C8=true:=walk_join [false,false,true,true,false,true,false] (by decide) d8_FFTTFTFT d8_FFTTFTFF
theorem d8_FFTTFT:walkP [false,false,true,true,false,true] 64 P8 C8=true:=walk_join [false,false,true,true,false,true] (by decide) d8_FFTTFTT d8_FFTTFTF
theorem d8_FFTTFF:walkP [false,false,true,true,false,false] 64 P8 C8=true:=walk_join [false,false,true,true,false,false] (by decide) d8_FFTTFFT d8_FFTTFFF
theorem d8_FFTTF:walkP [false,false,true,true,false] 64 P8 C8=true:=walk_join [false,false,true,true,false] (by decide) d8_FFTTFT d8_FFTTFF
theorem d8_FFTT:walkP [false,false,true,true] 64 P8 C8=true:=walk_join [false,false,true,true] (by decide) d8_FFTTT d8_FFTTF
theorem d8_FFTFT:walkP [false,false,true,false,true] 64 P8 C8=true:=walk_join [false,false,true,false,true] (by decide) d8_FFTFTT d8_FFTFTF
theorem d8_FFTFF:walkP [false,false,true,false,false] 64 P8 C8=true:=walk_join [false,false,true,false,false] (by decide) d8_FFTFFT d8_FFTFFF
theorem d8_FFTF:walkP [false,false,true,false] 64 P8 C8=true:=walk_join [false,false,true,false] (by decide) d8_FFTFT d8_FFTFF
theorem d8_FFT:walkP [false,false,true] 64 P8 C8=true:=walk_join [false,false,true] (by decide) d8_FFTT d8_FFTF
theorem d8_FFFTTF:walkP [false,false,false,true,true,false] 64 P8 C8=true:=walk_join [false,false,false,true,true,false] (by decide) d8_FFFTTFT d8_FFFTTFF
theorem d8_FFFTT:walkP [false,false,false,true,true] 64 P8 C8=true:=walk_join [false,false,false,true,true] (by decide) d8_FFFTTT d8_FFFTTF
theorem d8_FFFTF:walkP [false,false,false,true,false] 64 P8 C8=true:=walk_join [false,false,false,true,false] (by decide) d8_FFFTFT d8_FFFTFF
theorem d8_FFFT:walkP [false,false,false,true] 64 P8 C8=true:=walk_join [false,false,false,true] (by decide) d8_FFFTT d8_FFFTF
theorem d8_FFFFTT:walkP [false,false,false,false,true,true] 64 P8 C8=true:=walk_join [false,false,false,false,true,true] (by decide) d8_FFFFTTT d8_FFFFTTF
theorem d8_FFFFT:walkP [false,false,false,false,true] 64 P8 C8=true:=walk_join [false,false,false,false,true] (by decide) d8_FFFFTT d8_FFFFTF
theorem d8_FFFF:walkP [false,false,false,false] 64 P8 C8=true:=walk_join [false,false,false,false] (by decide) d8_FFFFT d8_FFFFF
theorem d8_FFF:walkP [false,false,false] 64 P8 C8=true:=walk_join [false,false,false] (by decide) d8_FFFT d8_FFFF
theorem d8_FF:walkP [false,false] 64 P8 C8=true:=walk_join [false,false] (by decide) d8_FFT d8_FFF
theorem d8_F:walkP [false] 64 P8 C8=true:=walk_join [false] (by decide) d8_FT d8_FF
theorem d8_all:walkP [] 64 P8 C8=true:=walk_join [] (by decide) d8_T d8_F
theorem dual8:dualN 8=true:=by
 unfold dualN
 rw [runF_eq]
 rw [show (8 / 2:Nat)=4 from rfl,P8_eq,C8_eq,← dualF_eq]
 exact d8_all
end Go.Z
/-
 LineTutte: in a graph of at most eight numbers,an even number of them,all are paired,or a colouring leaves more odd parts than the set has numbers.
-/
namespace Go.Z
def mkE:Nat→(Nat→Bool)→Nat
 | 0,_=>0
 | k + 1,f=>Nat.lor (bif f k then Nat.pow 2 k else 0) (mkE k f)
theorem lor_bit (a b i:Nat):(Nat.lor a b).testBit i=(a.testBit i || b.testBit i):=Nat.testBit_or ..
theorem pow_bit (v i:Nat):(Nat.pow 2 v).testBit i=decide (v=i):=by
 show (2 ^ v).testBit i=_
 rw [Nat.testBit_two_pow]
theorem mkE_bit:∀ (k:Nat) (f:Nat→Bool) (i:Nat),(mkE k f).testBit i=(decide (i < k) && f i)
 | 0,f,i=>by simp [mkE]
 | k + 1,f,i=>by
  unfold mkE
  rw [lor_bit,mkE_bit k f i]
  by_cases h:k=i
  ·subst h
   cases hf:f k <;> simp [pow_bit,hf]
  ·have h1:(bif f k then Nat.pow 2 k else 0).testBit i=false:=by
    cases f k
    ·simp
    ·rw [show (bif true then Nat.pow 2 k else 0)=Nat.pow 2 k from rfl,pow_bit]; simp [h]
   rw [h1,Bool.false_or]
   have:decide (i < k + 1)=decide (i < k):=by
    by_cases h2:i < k
    ·simp [h2]; omega
    ·have:¬ i < k + 1:=by omega
     simp [h2,this]
   rw [this]
theorem maskM_bit {m:List (Nat × Nat)} {q:Nat × Nat} (h:q∈m):(maskM m).testBit (pIx q.1 q.2)=true:=by
 induction m with
 | nil=>cases h
 | cons x m ih=>
  show (Nat.lor (Nat.pow 2 (pIx x.1 x.2)) (maskM m)).testBit _=true
  rw [lor_bit]
  rcases List.mem_cons.1 h with rfl | h
  ·rw [pow_bit]; simp
  ·rw [ih h,Bool.or_true]
theorem maskRow_bit {x j:Nat} (hx:1≤x):∀ {w:List Nat} {s i:Nat} (hi:i < w.length),1≤w[i]→x ≠ w[i]→(maskRow x j s w).testBit (pIx (s + i) j)=true
 | y::w,s,0,hi,h1,h2=>by
  unfold maskRow
  have e1:Nat.ble 1 x=true:=Nat.ble_eq_true_of_le hx
  have e2:Nat.ble 1 y=true:=Nat.ble_eq_true_of_le h1
  have e3:Nat.beq x y=false:=by
   cases hb:Nat.beq x y with
   | false=>rfl
   | true=>exact absurd (Nat.eq_of_beq_eq_true hb) h2
  rw [e1,e2,e3]
  simp only [Bool.not_false,Bool.and_self,cond_true]
  rw [lor_bit,pow_bit]
  simp
 | y::w,s,i + 1,hi,h1,h2=>by
  have ih:=maskRow_bit (j:=j) hx (w:=w) (s:=s + 1) (i:=i) (by simpa using hi) (by simpa using h1) (by simpa using h2)
  rw [show s + (i + 1)=s + 1 + i by omega]
  unfold maskRow
  cases (Nat.ble 1 x && (Nat.ble 1 y && !Nat.beq x y)) with
  | true=>simp only [cond_true]; rw [lor_bit,ih,Bool.or_true]
  | false=>simp only [cond_false]; exact ih
theorem maskC_bit {w:List Nat} {i j:Nat} (hij:i < j) (hj:j < w.length) (h1:1≤w.getD i 0) (h2:1≤w.getD j 0) (h3:w.getD i 0 ≠ w.getD j 0):(maskC w).testBit (pIx i j)=true:=by
 have hrow:(maskRow (w.getD j 0) j 0 (w.take j)).testBit (pIx i j)=true:=by
  have hi:i < (w.take j).length:=by rw [List.length_take]; omega
  have hg:(w.take j)[i]=w.getD i 0:=by
   rw [List.getElem_take,List.getD_eq_getElem?_getD,List.getElem?_eq_getElem (by omega)]; rfl
  have:=maskRow_bit (x:=w.getD j 0) (j:=j) h2 (w:=w.take j) (s:=0) (i:=i) hi (by rw [hg]; exact h1) (by rw [hg]; exact fun h=>h3 h.symm)
  rwa [Nat.zero_add] at this
 have key:∀ (l:List Nat),j∈l→(l.foldr (fun j s=>Nat.lor (maskRow (w.getD j 0) j 0 (w.take j)) s) 0).testBit (pIx i j)=true:=by
  intro l
  induction l with
  | nil=>intro h; cases h
  | cons x l ih=>
   intro h
   rw [List.foldr_cons,lor_bit]
   rcases List.mem_cons.1 h with rfl | h
   ·rw [hrow,Bool.true_or]
   ·rw [ih h,Bool.or_true]
 exact key _ (List.mem_range.2 hj)
def inj8:Bool:=(List.range 8).all fun j=>(List.range j).all fun i=>(List.range 8).all fun b=>(List.range b).all fun a=>!Nat.beq (pIx i j) (pIx a b) || (Nat.beq i a && Nat.beq j b)
theorem inj8_ok:inj8=true:=by kernel_rfl
theorem pIx_inj {i j a b:Nat} (hij:i < j) (hj:j < 8) (hab:a < b) (hb:b < 8) (h:pIx i j=pIx a b):i=a∧j=b:=by
 have h0:=inj8_ok
 unfold inj8 at h0
 have h1:=List.all_eq_true.1 (List.all_eq_true.1 (List.all_eq_true.1 (List.all_eq_true.1 h0 j (List.mem_range.2 hj)) i (List.mem_range.2 hij)) b (List.mem_range.2 hb)) a (List.mem_range.2 hab)
 rw [Bool.or_eq_true,Bool.and_eq_true] at h1
 rcases h1 with h1 | h1
 ·rw [h,Nat.beq_refl] at h1; cases h1
 ·exact ⟨Nat.eq_of_beq_eq_true h1.1,Nat.eq_of_beq_eq_true h1.2⟩
def pix28:Bool:=(List.range 8).all fun j=>(List.range j).all fun i=>Nat.blt (pIx i j) 28
theorem pix28_ok:pix28=true:=by kernel_rfl
theorem pIx_lt {i j:Nat} (hij:i < j) (hj:j < 8):pIx i j < 28:=by
 have h0:=pix28_ok
 unfold pix28 at h0
 have h1:=List.all_eq_true.1 (List.all_eq_true.1 h0 j (List.mem_range.2 hj)) i (List.mem_range.2 hij)
 exact Nat.le_of_ble_eq_true h1
def pmsOk (n:Nat):Bool:=(pmsN (n / 2) (List.range n)).all fun m=>m.all fun q=>Nat.blt q.1 q.2 && Nat.blt q.2 n
def barsOk (n:Nat):Bool:=(barsN n).all fun w=>Nat.beq w.length n
theorem tutte_of {n:Nat} (hn:n≤8) (hd:dualN n=true) (hp:pmsOk n=true) (hb:barsOk n=true) (adj:Nat→Nat→Bool):
  (∃ m∈pmsN (n / 2) (List.range n),∀ q∈m,adj q.1 q.2=true)∨(∃ w∈barsN n,∀ i j,i < j→j < n→1≤w.getD i 0→1≤w.getD j 0→w.getD i 0 ≠ w.getD j 0→adj i j=false):=by
 unfold dualN at hd
 rw [runF_eq] at hd
 let f:Nat→Bool:=fun k=>(List.range 8).any fun j=>(List.range j).any fun i=>Nat.beq (pIx i j) k && adj i j
 have hf:∀ {i j:Nat},i < j→j < 8→f (pIx i j)=adj i j:=by
  intro i j hij hj
  cases ha:adj i j with
  | true=>
   show ((List.range 8).any fun j'=>(List.range j').any fun i'=>Nat.beq (pIx i' j') (pIx i j) && adj i' j')=true
   rw [List.any_eq_true]
   refine ⟨j,List.mem_range.2 hj,?_⟩
   rw [List.any_eq_true]
   exact ⟨i,List.mem_range.2 hij,by rw [Nat.beq_refl,ha]; rfl⟩
  | false=>
   cases hc:f (pIx i j) with
   | false=>rfl
   | true=>
    obtain ⟨b,hb1,hb2⟩:=List.any_eq_true.1 hc
    obtain ⟨a,ha1,ha2⟩:=List.any_eq_true.1 hb2
    rw [Bool.and_eq_true] at ha2
    have:=pIx_inj (List.mem_range.1 ha1) (List.mem_range.1 hb1) hij hj (Nat.eq_of_beq_eq_true ha2.1)
    rw [this.1,this.2,ha] at ha2
    exact ha2.2.symm
 have hE:∀ {i j:Nat},i < j→j < 8→(mkE 28 f).testBit (pIx i j)=adj i j:=by
  intro i j hij hj
  rw [mkE_bit,hf hij hj]
  have:=pIx_lt hij hj
  simp [this]
 rcases dual_ok _ hd (mkE 28 f) with ⟨p,hpm,hbit⟩ | ⟨c,hcm,hbit⟩
 ·obtain ⟨m,hm,rfl⟩:=List.mem_map.1 hpm
  refine .inl ⟨m,hm,fun q hq=>?_⟩
  have hq2:=List.all_eq_true.1 (List.all_eq_true.1 hp m hm) q hq
  rw [Bool.and_eq_true] at hq2
  have h1:q.1 < q.2:=Nat.le_of_ble_eq_true hq2.1
  have h2:q.2 < n:=Nat.le_of_ble_eq_true hq2.2
  rw [← hE h1 (by omega)]
  exact hbit _ (maskM_bit hq)
 ·obtain ⟨w,hw,rfl⟩:=List.mem_map.1 hcm
  have hwl:w.length=n:=Nat.eq_of_beq_eq_true (List.all_eq_true.1 hb w hw)
  refine .inr ⟨w,hw,fun i j hij hj h1 h2 h3=>?_⟩
  rw [← hE hij (by omega)]
  exact hbit _ (maskC_bit hij (by omega) h1 h2 h3)
end Go.Z
/-
 LineTutte: where all are paired with near ones,no set proves.
-/
namespace Go.Z
open Go Go.Abs
def flatP:List (Nat × Nat)→List Nat
 | []=>[]
 | q::m=>q.1::q.2::flatP m
theorem pms_flat:∀ (k:Nat) (t:List Nat) (m:List (Nat × Nat)),m∈pmsN k t→t.length=2 * k→t.Nodup→(flatP m).Nodup∧∀ x,x∈flatP m↔x∈t
 | 0,t,m,h,ht,_=>by
  have h0:t=[]:=List.length_eq_zero_iff.1 (by omega)
  subst h0
  have:m=[]:=by simpa [pmsN] using h
  subst this
  exact ⟨List.nodup_nil,fun x=>Iff.rfl⟩
 | k + 1,[],m,h,ht,_=>by simp at ht
 | k + 1,a::t,m,h,ht,hn=>by
  obtain ⟨ha,hnt⟩:=List.nodup_cons.1 hn
  unfold pmsN at h
  obtain ⟨b,hb,h⟩:=List.mem_flatMap.1 h
  obtain ⟨m',hm',rfl⟩:=List.mem_map.1 h
  have hf:∀ x,x∈t.filter (fun x=>!Nat.beq x b)↔x∈t∧x ≠ b:=by
   intro x
   rw [List.mem_filter]
   constructor
   ·rintro ⟨h1,h2⟩
    refine ⟨h1,fun e=>?_⟩
    rw [e,Nat.beq_refl] at h2
    cases h2
   ·rintro ⟨h1,h2⟩
    refine ⟨h1,?_⟩
    cases hb:Nat.beq x b with
    | true=>exact absurd (Nat.eq_of_beq_eq_true hb) h2
    | false=>rfl
  have hfn:(t.filter (fun x=>!Nat.beq x b)).Nodup:=hnt.sublist (List.filter_sublist ..)
  have hfl:(t.filter (fun x=>!Nat.beq x b)).length=2 * k:=by
   have e:(t.filter fun x=>!Nat.beq x b)=t.erase b:=by
    rw [hnt.erase_eq_filter]
    apply List.filter_congr
    intro x _
    cases hx:Nat.beq x b with
    | true=>rw [Nat.eq_of_beq_eq_true hx]; simp
    | false=>
     have:x ≠ b:=fun e=>by rw [e,Nat.beq_refl] at hx; cases hx
     simp [this]
   rw [e,List.length_erase_of_mem hb]
   simp only [List.length_cons] at ht
   omega
  obtain ⟨h1,h2⟩:=pms_flat k _ m' hm' hfl hfn
  refine ⟨?_,fun x=>?_⟩
  ·show (a::b::flatP m').Nodup
   refine List.nodup_cons.2 ⟨fun h=>?_,List.nodup_cons.2 ⟨fun h=>((hf b).1 ((h2 b).1 h)).2 rfl,h1⟩⟩
   rcases List.mem_cons.1 h with h | h
   ·exact ha (h ▸ hb)
   ·exact ha ((hf a).1 ((h2 a).1 h)).1
  ·show x∈a::b::flatP m'↔_
   rw [List.mem_cons,List.mem_cons,h2,hf,List.mem_cons]
   constructor
   ·rintro (h | h | ⟨h,_⟩)
    ·exact .inl h
    ·exact .inr (h ▸ hb)
    ·exact .inr h
   ·rintro (h | h)
    ·exact .inl h
    ·by_cases hxb:x=b
     ·exact .inr (.inl hxb)
     ·exact .inr (.inr ⟨h,hxb⟩)
def Mate (m:List (Nat × Nat)) (x y:Int):Prop:=∃ q∈m,(x=(q.1:Int)∧y=(q.2:Int))∨(x=(q.2:Int)∧y=(q.1:Int))
theorem mate_flat {m:List (Nat × Nat)} {x y:Int} (h:Mate m x y):∃ a b:Nat,x=(a:Int)∧y=(b:Int)∧a∈flatP m∧b∈flatP m:=by
 obtain ⟨q,hq,h⟩:=h
 have key:q.1∈flatP m∧q.2∈flatP m:=by
  induction m with
  | nil=>cases hq
  | cons z m ih=>
   rcases List.mem_cons.1 hq with rfl | hq
   ·exact ⟨List.mem_cons_self ..,List.mem_cons_of_mem _ (List.mem_cons_self ..)⟩
   ·exact ⟨List.mem_cons_of_mem _ (List.mem_cons_of_mem _ (ih hq).1),List.mem_cons_of_mem _ (List.mem_cons_of_mem _ (ih hq).2)⟩
 rcases h with ⟨h1,h2⟩ | ⟨h1,h2⟩
 ·exact ⟨q.1,q.2,h1,h2,key.1,key.2⟩
 ·exact ⟨q.2,q.1,h1,h2,key.2,key.1⟩
theorem mate_one {m:List (Nat × Nat)} (hn:(flatP m).Nodup) {x y z:Int} (h:Mate m x y) (h':Mate m x z):y=z:=by
 induction m with
 | nil=>obtain ⟨q,hq,_⟩:=h; cases hq
 | cons q m ih=>
  have hn:(q.1::q.2::flatP m).Nodup:=hn
  obtain ⟨n1,hn⟩:=List.nodup_cons.1 hn
  obtain ⟨n2,hn⟩:=List.nodup_cons.1 hn
  have n12:q.1 ≠ q.2:=fun e=>n1 (e ▸ List.mem_cons_self ..)
  have n1':q.1 ∉ flatP m:=fun h=>n1 (List.mem_cons_of_mem _ h)
  have split:∀ {y:Int},Mate (q::m) x y→((x=(q.1:Int)∧y=(q.2:Int))∨(x=(q.2:Int)∧y=(q.1:Int)))∨Mate m x y:=by
   rintro y ⟨p,hp,hh⟩
   rcases List.mem_cons.1 hp with rfl | hp
   ·exact .inl hh
   ·exact .inr ⟨p,hp,hh⟩
  have out:∀ {y:Int},Mate m x y→x ≠ (q.1:Int)∧x ≠ (q.2:Int):=by
   intro y hh
   obtain ⟨a,b,rfl,rfl,ha,hb⟩:=mate_flat hh
   exact ⟨fun e=>n1' (by rw [← show a=q.1 by omega]; exact ha),fun e=>n2 (by rw [← show a=q.2 by omega]; exact ha)⟩
  rcases split h with h1 | h1
  ·rcases split h' with h2 | h2
   ·rcases h1 with ⟨a1,b1⟩ | ⟨a1,b1⟩ <;> rcases h2 with ⟨a2,b2⟩ | ⟨a2,b2⟩
    ·rw [b1,b2]
    ·exact absurd (by omega) n12
    ·exact absurd (by omega) n12
    ·rw [b1,b2]
   ·have:=out h2
    rcases h1 with ⟨a1,_⟩ | ⟨a1,_⟩
    ·exact absurd a1 this.1
    ·exact absurd a1 this.2
  ·rcases split h' with h2 | h2
   ·have:=out h1
    rcases h2 with ⟨a1,_⟩ | ⟨a1,_⟩
    ·exact absurd a1 this.1
    ·exact absurd a1 this.2
   ·exact ih hn h1 h2
theorem even_pairs:∀ (m:List (Nat × Nat)) (D:Int→Bool),(∀ q∈m,D (q.1:Int)=D (q.2:Int))→((flatP m).filter fun (x:Nat)=>D (x:Int)).length % 2=0
 | [],D,_=>rfl
 | q::m,D,h=>by
  have ih:=even_pairs m D fun p hp=>h p (List.mem_cons_of_mem _ hp)
  have hq:=h q (List.mem_cons_self ..)
  show ((q.1::q.2::flatP m).filter fun (x:Nat)=>D (x:Int)).length % 2=0
  rw [List.filter_cons,List.filter_cons]
  cases h1:D (q.1:Int) with
  | true=>
   rw [h1] at hq
   rw [← hq]
   simp only [if_true,List.length_cons]
   omega
  | false=>
   rw [h1] at hq
   rw [← hq]
   simpa using ih
theorem odd_leaves {m:List (Nat × Nat)} (hn:(flatP m).Nodup) {D:List Int} (hD:D.Nodup) (hDm:∀ x∈D,∃ a∈flatP m,x=((a:Nat):Int)) (ho:D.length % 2=1):∃ x y,x∈D∧y ∉ D∧Mate m x y:=by
 have hc:∀ q∈m,memI D (q.1:Int)=memI D (q.2:Int)∨∃ x y,x∈D∧y ∉ D∧Mate m x y:=by
  intro q hq
  cases h1:memI D (q.1:Int) with
  | true=>
   cases h2:memI D (q.2:Int) with
   | true=>exact .inl rfl
   | false=>
    refine .inr ⟨(q.1:Int),(q.2:Int),?_,?_,q,hq,.inl ⟨rfl,rfl⟩⟩
    ·unfold memI at h1; rw [List.contains_eq_mem] at h1; simpa using h1
    ·unfold memI at h2; rw [List.contains_eq_mem] at h2; simpa using h2
  | false=>
   cases h2:memI D (q.2:Int) with
   | true=>
    refine .inr ⟨(q.2:Int),(q.1:Int),?_,?_,q,hq,.inr ⟨rfl,rfl⟩⟩
    ·unfold memI at h2; rw [List.contains_eq_mem] at h2; simpa using h2
    ·unfold memI at h1; rw [List.contains_eq_mem] at h1; simpa using h1
   | false=>exact .inl rfl
 by_cases hall:∀ q∈m,memI D (q.1:Int)=memI D (q.2:Int)
 ·exfalso
  have he:=even_pairs m (memI D) hall
  have hl:((flatP m).filter fun (x:Nat)=>memI D (x:Int)).length=D.length:=by
   have e:(((flatP m).filter fun (x:Nat)=>memI D (x:Int)).map fun (x:Nat)=>(x:Int)).length=D.length:=by
    refine Nat.le_antisymm (nodup_sub_len ?_ fun x hx=>?_) (nodup_sub_len hD fun x hx=>?_)
    ·exact List.Pairwise.map _ (fun a b h e=>h (by omega)) (hn.sublist (List.filter_sublist ..))
    ·obtain ⟨a,ha,rfl⟩:=List.mem_map.1 hx
     exact memI_iff.1 (List.mem_filter.1 ha).2
    ·obtain ⟨a,ha,rfl⟩:=hDm x hx
     exact List.mem_map.2 ⟨a,List.mem_filter.2 ⟨ha,memI_iff.2 hx⟩,rfl⟩
   simpa using e
  omega
 ·obtain ⟨q,hq⟩:=Classical.not_forall.1 hall
  obtain ⟨hq,hne⟩:=Classical.not_imp.1 hq
  rcases hc q hq with h | h
  ·exact absurd h hne
  ·exact h
end Go.Z
/-
 LineTutte: classes with an odd number each,no near pair between two of them: as many parts with an odd number are counted,at least.
-/
namespace Go.Z
open Go Go.Abs
theorem dAt_symm (l:List GUnit) (i j:Int):dAt l i j=dAt l j i:=by
 unfold dAt
 cases l[i.toNat]? with
 | none=>cases l[j.toNat]? <;> rfl
 | some u=>
  cases l[j.toNat]? with
  | none=>rfl
  | some w=>exact diffU_self u w
theorem near_symm (l:List GUnit) (below i j:Int):near l below i j=near l below j i:=by unfold near; rw [dAt_symm]
def taken (n:Nat) (col:Nat→Nat) (t:Nat) (m:List Int):List Int:=((List.range n).map fun (x:Nat)=>(x:Int)).filter fun x=>Nat.beq (col x.toNat) t && !memI m x
theorem taken_mem {n:Nat} {col:Nat→Nat} {t:Nat} {m:List Int} {x:Int}:x∈taken n col t m↔0≤x∧x < (n:Int)∧col x.toNat=t∧x ∉ m:=by
 unfold taken
 rw [List.mem_filter,List.mem_map,Bool.and_eq_true,Bool.not_eq_eq_eq_not,Bool.not_true,memI_not]
 constructor
 ·rintro ⟨⟨a,ha,rfl⟩,h1,h2⟩
  exact ⟨by omega,by have:=List.mem_range.1 ha; omega,Nat.eq_of_beq_eq_true h1,h2⟩
 ·rintro ⟨h1,h2,h3,h4⟩
  exact ⟨⟨x.toNat,List.mem_range.2 (by omega),by omega⟩,by rw [h3]; exact Nat.beq_refl _,h4⟩
theorem taken_nodup {n:Nat} {col:Nat→Nat} {t:Nat} {m:List Int}:(taken n col t m).Nodup:=by
 unfold taken
 refine List.Nodup.sublist (List.filter_sublist ..) ?_
 refine List.Pairwise.map _ (fun a b h=>?_) List.nodup_range
 intro e
 exact h (by omega)
theorem len_same {a b:List Int} (ha:a.Nodup) (hb:b.Nodup) (h:∀ x,x∈a↔x∈b):a.length=b.length:=
 Nat.le_antisymm (nodup_sub_len ha fun x hx=>(h x).1 hx) (nodup_sub_len hb fun x hx=>(h x).2 hx)
def pot (n:Nat) (col:Nat→Nat) (m:List Int):Nat→Nat
 | 0=>0
 | t + 1=>pot n col m t + (taken n col (t + 1) m).length % 2
theorem pot_step {n:Nat} {col:Nat→Nat} {m m' D:List Int} {t0:Nat} (hD:D.Nodup) (hDm:∀ x∈D,x∈m∧0≤x∧x < (n:Int)∧col x.toNat=t0) (hm':∀ x,x∈m'↔x∈m∧x ∉ D):∀ k,pot n col m' k≤pot n col m k + (if t0≤k then D.length % 2 else 0)
 | 0=>by unfold pot; omega
 | k + 1=>by
  have ih:=pot_step hD hDm hm' k
  unfold pot
  by_cases h:t0=k + 1
  ·have e:(taken n col (k + 1) m').length=(taken n col (k + 1) m).length + D.length:=by
    rw [← List.length_append]
    refine len_same taken_nodup (List.nodup_append.2 ⟨taken_nodup,hD,fun a ha b hb hab=>?_⟩) fun x=>?_
    ·exact (taken_mem.1 ha).2.2.2 (hab ▸ (hDm b hb).1)
    ·rw [List.mem_append,taken_mem,taken_mem,hm']
     constructor
     ·rintro ⟨h1,h2,h3,h4⟩
      by_cases hx:x∈m
      ·by_cases hxD:x∈D
       ·exact .inr hxD
       ·exact absurd ⟨hx,hxD⟩ h4
      ·exact .inl ⟨h1,h2,h3,hx⟩
     ·rintro (⟨h1,h2,h3,h4⟩ | hx)
      ·exact ⟨h1,h2,h3,fun hh=>h4 hh.1⟩
      ·obtain ⟨h1,h2,h3,h4⟩:=hDm x hx
       exact ⟨h2,h3,by rw [h4,h],fun hh=>hh.2 hx⟩
   rw [e]
   have h0:¬ t0≤k:=by omega
   rw [if_neg h0] at ih
   rw [if_pos (by omega)]
   omega
  ·have e:(taken n col (k + 1) m').length=(taken n col (k + 1) m).length:=by
    refine len_same taken_nodup taken_nodup fun x=>?_
    rw [taken_mem,taken_mem,hm']
    constructor
    ·rintro ⟨h1,h2,h3,h4⟩
     refine ⟨h1,h2,h3,fun hx=>?_⟩
     by_cases hxD:x∈D
     ·exact h ((hDm x hxD).2.2.2 ▸ h3)
     ·exact h4 ⟨hx,hxD⟩
    ·rintro ⟨h1,h2,h3,h4⟩
     exact ⟨h1,h2,h3,fun hh=>h4 hh.1⟩
   rw [e]
   by_cases h1:t0≤k
   ·rw [if_pos h1] at ih
    rw [if_pos (by omega)]
    omega
   ·rw [if_neg h1] at ih
    rw [if_neg (by omega)]
    omega
theorem near_col {l:List GUnit} {below:Int} {n:Nat} {col:Nat→Nat} (hln:l.length=n) (hno:∀ i j:Nat,i < j→j < n→1≤col i→1≤col j→col i ≠ col j→near l below (i:Int) (j:Int)=false) {x y:Int} (hx0:0≤x) (hxn:x < (n:Int)) (hy0:0≤y) (hyn:y < (n:Int)) (hx:1≤col x.toNat) (hy:1≤col y.toNat) (hxy:near l below x y=true):col x.toNat=col y.toNat:=by
 by_cases he:col x.toNat=col y.toNat
 ·exact he
 ·exfalso
  rcases Int.lt_trichotomy x y with h | h | h
  ·have:=hno x.toNat y.toNat (by omega) (by omega) hx hy he
   rw [show ((x.toNat:Nat):Int)=x by omega,show ((y.toNat:Nat):Int)=y by omega,hxy] at this
   cases this
  ·exact he (by rw [h])
  ·have:=hno y.toNat x.toNat (by omega) (by omega) hy hx (fun e=>he e.symm)
   rw [show ((x.toNat:Nat):Int)=x by omega,show ((y.toNat:Nat):Int)=y by omega,near_symm,hxy] at this
   cases this
set_option maxHeartbeats 1000000 in
theorem loop_many {l:List GUnit} {o':Option (List GUnit)} {below:Int} {col:Nat→Nat} (hu:UnitsOk l) (ho':o'.getD []=l) (hl:l.length≤64)
  (hno:∀ i j:Nat,i < j→j < l.length→1≤col i→1≤col j→col i ≠ col j→near l below (i:Int) (j:Int)=false) (a2:Option (List Int)) (k:Nat):
  ∀ (j i:Nat) (m:List Int) (c:Int),i + j=l.length→m.Nodup→(∀ x∈m,0≤x∧x < (l.length:Int)∧1≤col x.toNat)→(∀ x∈m,(i:Int)≤x∨(i:Int)≤x)→(pot l.length col m k:Int)≤c→0≤c→c≤i →
   ∃ (c':Int),itO (s119_1 o' below a2) (c,(i:Int),m)=some (c',(l.length:Int),[])∧(pot l.length col [] k:Int)≤c'
 | 0,i,m,c,hi,hm,hmc,hlow,hp,hc0,hc=>by
  have hi2:i=l.length:=by omega
  subst hi2
  have hm0:m=[]:=by
   cases m with
   | nil=>rfl
   | cons x m=>
    have h1:=hmc x (List.mem_cons_self ..)
    have h2:=hlow x (List.mem_cons_self ..)
    omega
  subst hm0
  exact ⟨c,itO_out (by unfold s119_1; simp [ho']),hp⟩
 | j + 1,i,m,c,hi,hm,hmc,hlow,hp,hc0,hc=>by
  have hlt:(i:Int) < (l.length:Int):=by omega
  have hw:wrapF .i64 ((i:Int) + 1)=((i + 1:Nat):Int):=wrap_nat (by omega)
  by_cases him:(i:Int)∈m
  ·have hml:m.length≤l.length:=free_len (s:=[]) hm fun x hx=>⟨(hmc x hx).1,(hmc x hx).2.1,by simp⟩
   obtain ⟨D,m',q1,q2,q3,q4⟩:=part_eq (below:=below) hu ho' (by omega) 70 m (i:Int) (by omega) hm (fun x hx=>⟨(hmc x hx).1,(hmc x hx).2.1⟩) him
   have hDl:D.length≤l.length:=free_len (s:=[]) q2.nd fun x hx=>⟨(hmc x (q2.ins x hx)).1,(hmc x (q2.ins x hx)).2.1,by simp⟩
   have hDc:∀ x∈D,x∈m∧0≤x∧x < (l.length:Int)∧col x.toNat=col i:=by
    intro x hx
    have hxm:=q2.ins x hx
    refine ⟨hxm,(hmc x hxm).1,(hmc x hxm).2.1,?_⟩
    have:=q2.least (fun y=>(0≤y∧y < (l.length:Int)∧1≤col y.toNat)∧col y.toNat=col i) ⟨hmc _ him,by simp⟩ (fun y hy z hz hyz=>by
     obtain ⟨⟨y1,y2,y3⟩,y4⟩:=hy
     obtain ⟨z1,z2,z3⟩:=hmc z hz
     exact ⟨⟨z1,z2,z3⟩,by rw [← near_col rfl hno y1 y2 z1 z2 y3 z3 hyz]; exact y4⟩) x hx
    exact this.2
   have hrem:∀ x:Nat,remO (x:Int) 2=some ((x % 2:Nat):Int):=fun x=>by unfold remO; rw [if_neg (by decide)]; rfl
   have e1:s119_1 o' below a2 (c,(i:Int),m)=some (.inl (c + ((D.length % 2:Nat):Int),((i + 1:Nat):Int),m')):=by
    unfold s119_1
    simp only [ho',hlt,decide_true,cond_true,memI_iff.2 him,q1,obind_at,hrem,hw]
    by_cases hz:D.length % 2=0
    ·rw [hz]; simp
    ·have h21:D.length % 2=1:=by omega
     rw [h21]
     have hw3:wrapF .i64 (c + 1)=c + 1:=wrapF_i64 (by omega) (by omega)
     have hne:¬ ((1:Nat):Int)=0:=by decide
     simp only [hne,decide_false,cond_false,hw3]
     rfl
   have hps:=pot_step q2.nd hDc q4 k
   have hps2:pot l.length col m' k≤pot l.length col m k + D.length % 2:=by split at hps <;> omega
   rw [itO_in e1]
   refine loop_many hu ho' hl hno a2 k j (i + 1) m' _ (by omega) q3 (fun x hx=>hmc x ((q4 x).1 hx).1) (fun x hx=>?_) (by omega) (by omega) (by omega)
   have h1:=(q4 x).1 hx
   have h2:=hlow x h1.1
   have h3:x ≠ (i:Int):=fun e=>h1.2 (e ▸ q2.has)
   omega
  ·have e1:s119_1 o' below a2 (c,(i:Int),m)=some (.inl (c,((i + 1:Nat):Int),m)):=by
    unfold s119_1
    simp only [ho',hlt,decide_true,cond_true,memI_not.2 him,cond_false,hw]
   rw [itO_in e1]
   refine loop_many hu ho' hl hno a2 k j (i + 1) m c (by omega) hm hmc (fun x hx=>?_) hp hc0 (by omega)
   have h2:=hlow x hx
   have h3:x ≠ (i:Int):=fun e=>him (e ▸ hx)
   omega
theorem many_odd {l:List GUnit} {o':Option (List GUnit)} {below:Int} {col:Nat→Nat} (hu:UnitsOk l) (ho':o'.getD []=l) (hl:l.length≤64)
  (hno:∀ i j:Nat,i < j→j < l.length→1≤col i→1≤col j→col i ≠ col j→near l below (i:Int) (j:Int)=false) {a2:Option (List Int)} {set:List Int} (h2:a2.getD []=set) (hs:set.length≤64)
  (hcol:∀ i:Nat,i < l.length→(col i=0↔(i:Int)∈set)) (k:Nat):∃ c:Int,f119 o' below a2=some (decide ((set.length:Int) < c))∧(pot l.length col [] k:Int)≤c:=by
 obtain ⟨m,e1,m1,m2⟩:=left_eq (below:=below) (l:=l) ho' rfl hl h2 hs l.length 0 [] (by omega) List.nodup_nil (fun x=>by
  unfold Free; simp only [List.not_mem_nil,false_iff]; rintro ⟨a,b,c⟩; omega)
 have hmc:∀ x∈m,0≤x∧x < (l.length:Int)∧1≤col x.toNat:=by
  intro x hx
  obtain ⟨h1,h3,h4⟩:=(m2 x).1 hx
  refine ⟨h1,h3,?_⟩
  have:=hcol x.toNat (by omega)
  rw [show ((x.toNat:Nat):Int)=x by omega] at this
  have h5:col x.toNat ≠ 0:=fun e=>h4 (this.1 e)
  omega
 have hp0:pot l.length col m k=0:=by
  induction k with
  | zero=>rfl
  | succ k ih=>
   unfold pot
   rw [ih]
   have:taken l.length col (k + 1) m=[]:=by
    rw [List.eq_nil_iff_forall_not_mem]
    intro x hx
    obtain ⟨h1,h3,h4,h5⟩:=taken_mem.1 hx
    refine h5 ((m2 x).2 ⟨h1,h3,fun hin=>?_⟩)
    have:=hcol x.toNat (by omega)
    rw [show ((x.toNat:Nat):Int)=x by omega] at this
    have:=this.2 hin
    omega
   rw [this]
   rfl
 obtain ⟨c,e2,hc⟩:=loop_many hu ho' hl hno a2 k l.length 0 m 0 (by omega) m1 hmc (fun x hx=>.inl (by have:=(hmc x hx).1; omega)) (by rw [hp0]; exact Int.le_refl _) (by omega) (by omega)
 refine ⟨c,?_,hc⟩
 unfold f119
 rw [Int.natCast_zero] at e1 e2
 rw [e1]
 simp only [obind_at,e2,h2]
end Go.Z
/-
 LineTutte: all units are paired with near ones,or a set is told that the product counts as a proof.
-/
namespace Go.Z
open Go Go.Abs
theorem cnt_filter (t:Nat):∀ w:List Nat,cnt t w=(w.filter fun x=>Nat.beq x t).length
 | []=>rfl
 | x::w=>by
  have ih:=cnt_filter t w
  show (bif Nat.beq x t then cnt t w + 1 else cnt t w)=_
  rw [List.filter_cons]
  cases Nat.beq x t with
  | true=>simp [ih]
  | false=>simp [ih]
theorem taken_len (w:List Nat) (t:Nat):(taken w.length (fun i=>w.getD i 0) t []).length=cnt t w:=by
 rw [cnt_filter]
 have e:w=(List.range w.length).map fun i=>w.getD i 0:=by
  apply List.ext_getElem (by simp)
  intro i h1 h2
  rw [List.getElem_map,List.getElem_range,List.getD_eq_getElem?_getD,List.getElem?_eq_getElem h1]; rfl
 have e2:(w.filter fun x=>Nat.beq x t).length=((List.range w.length).filter fun i=>Nat.beq (w.getD i 0) t).length:=by
  have:w.filter (fun x=>Nat.beq x t)=((List.range w.length).map fun i=>w.getD i 0).filter fun x=>Nat.beq x t:=by rw [← e]
  rw [this,List.filter_map,List.length_map]
  rfl
 rw [e2]
 unfold taken
 rw [List.filter_map,List.length_map]
 congr 1
 apply List.filter_congr
 intro i _
 show (Nat.beq (w.getD ((i:Int).toNat) 0) t && !memI [] (i:Int))=Nat.beq (w.getD i 0) t
 rw [Int.toNat_natCast]
 have:memI [] (i:Int)=false:=rfl
 rw [this]
 simp
theorem pot_full {n:Nat} {col:Nat→Nat}:∀ (k:Nat),(∀ t,t < k→(taken n col (t + 1) []).length % 2=1)→pot n col [] k=k
 | 0,_=>rfl
 | k + 1,h=>by
  unfold pot
  rw [pot_full k fun t ht=>h t (by omega),h k (by omega)]
theorem good_bars {n:Nat} {w:List Nat} (hb:barsOk n=true) (h:w∈barsN n):w.length=n∧∀ t,t < cnt 0 w + 2→cnt (t + 1) w % 2=1:=by
 refine ⟨Nat.eq_of_beq_eq_true (List.all_eq_true.1 hb w h),fun t ht=>?_⟩
 have hg:=(List.mem_filter.1 h).2
 unfold goodC at hg
 rw [Bool.and_eq_true] at hg
 exact Nat.eq_of_beq_eq_true (List.all_eq_true.1 hg.1 t (List.mem_range.2 ht))
theorem sorted_set (n:Nat) (col:Nat→Nat) (t:Nat):(taken n col t []).Pairwise (· < ·):=by
 unfold taken
 refine List.Pairwise.sublist (List.filter_sublist ..) ?_
 exact List.Pairwise.map _ (fun a b h=>by omega) List.pairwise_lt_range
structure SetOk (n:Nat) (set:List Int):Prop where
 asc:set.Pairwise (· < ·)
 ins:∀ x∈set,0≤x∧x < (n:Int)
theorem dok2:pmsOk 2=true∧barsOk 2=true:=⟨by kernel_rfl,by kernel_rfl⟩
theorem dok4:pmsOk 4=true∧barsOk 4=true:=⟨by kernel_rfl,by kernel_rfl⟩
theorem dok6:pmsOk 6=true∧barsOk 6=true:=⟨by kernel_rfl,by kernel_rfl⟩
theorem dok8:pmsOk 8=true∧barsOk 8=true:=⟨by kernel_rfl,by kernel_rfl⟩
theorem tutte_even {n:Nat} (hn:n≤8) (h2:n % 2=0) (adj:Nat→Nat→Bool):
  (∃ m∈pmsN (n / 2) (List.range n),∀ q∈m,adj q.1 q.2=true)∨(∃ w∈barsN n,(w.length=n∧∀ t,t < cnt 0 w + 2→cnt (t + 1) w % 2=1)∧∀ i j,i < j→j < n→1≤w.getD i 0→1≤w.getD j 0→w.getD i 0 ≠ w.getD j 0→adj i j=false):=by
 have hc:n=0∨n=2∨n=4∨n=6∨n=8:=by omega
 have go:∀ {n:Nat},n≤8→dualN n=true→pmsOk n=true∧barsOk n=true→(∃ m∈pmsN (n / 2) (List.range n),∀ q∈m,adj q.1 q.2=true)∨(∃ w∈barsN n,(w.length=n∧∀ t,t < cnt 0 w + 2→cnt (t + 1) w % 2=1)∧∀ i j,i < j→j < n→1≤w.getD i 0→1≤w.getD j 0→w.getD i 0 ≠ w.getD j 0→adj i j=false):=by
  intro n hn hd hok
  rcases tutte_of hn hd hok.1 hok.2 adj with h | ⟨w,hw,h⟩
  ·exact .inl h
  ·exact .inr ⟨w,hw,good_bars hok.2 hw,h⟩
 rcases hc with rfl | rfl | rfl | rfl | rfl
 ·exact .inl ⟨[],by decide,by simp⟩
 ·exact go (by omega) dual2 dok2
 ·exact go (by omega) dual4 dok4
 ·exact go (by omega) dual6 dok6
 ·exact go (by omega) dual8 dok8
theorem tutte_units {l:List GUnit} {o':Option (List GUnit)} {below:Int} (hu:UnitsOk l) (ho':o'.getD []=l) (hl:l.length≤8):
  (l.length % 2=0∧∃ m∈pmsN (l.length / 2) (List.range l.length),∀ q∈m,near l below (q.1:Int) (q.2:Int)=true)∨(∃ set,SetOk l.length set∧set.length≤l.length∧∀ a2:Option (List Int),a2.getD []=set→f119 o' below a2=some true):=by
 by_cases h2:l.length % 2=0
 ·rcases tutte_even hl h2 (fun i j=>near l below (i:Int) (j:Int)) with h | ⟨w,hw,⟨hwl,hodd⟩,hno⟩
  ·exact .inl ⟨h2,h⟩
  ·refine .inr ⟨taken l.length (fun i=>w.getD i 0) 0 [],⟨sorted_set _ _ _,fun x hx=>by have:=taken_mem.1 hx; exact ⟨this.1,this.2.1⟩⟩,?_,fun a2 ha=>?_⟩
   ·exact free_len (s:=[]) taken_nodup fun x hx=>by have:=taken_mem.1 hx; exact ⟨this.1,this.2.1,by simp⟩
   ·have hlen:(taken l.length (fun i=>w.getD i 0) 0 []).length=cnt 0 w:=by rw [← hwl]; exact taken_len w 0
    have hsl:(taken l.length (fun i=>w.getD i 0) 0 []).length≤l.length:=free_len (s:=[]) taken_nodup fun x hx=>by have:=taken_mem.1 hx; exact ⟨this.1,this.2.1,by simp⟩
    obtain ⟨c,e,hc⟩:=many_odd (below:=below) (col:=fun i=>w.getD i 0) hu ho' (by omega) hno ha (by omega) (fun i hi=>by
     rw [taken_mem,Int.toNat_natCast]
     simp only [List.not_mem_nil,not_false_eq_true,and_true]
     constructor
     ·intro h; exact ⟨by omega,by omega,h⟩
     ·rintro ⟨_,_,h⟩; exact h) (cnt 0 w + 2)
    rw [pot_full _ (fun t ht=>by rw [← hwl,taken_len]; exact hodd t ht)] at hc
    rw [e]
    have:((taken l.length (fun i=>w.getD i 0) 0 []).length:Int) < c:=by rw [hlen]; omega
    rw [decide_eq_true this]
 ·refine .inr ⟨[],⟨List.Pairwise.nil,by simp⟩,by simp,fun a2 ha=>?_⟩
  obtain ⟨c,e,hc⟩:=many_odd (below:=below) (col:=fun _=>1) hu ho' (by omega) (fun i j _ _ _ _ h=>absurd rfl h) ha (by simp) (fun i hi=>by simp) 1
  have hp:pot l.length (fun _=>1) [] 1=1:=by
   refine pot_full 1 fun t ht=>?_
   have ht0:t=0:=by omega
   subst ht0
   have hlen:(taken l.length (fun _=>1) (0 + 1) []).length=l.length:=by
    have e1:((List.range l.length).map fun (x:Nat)=>(x:Int)).length=l.length:=by simp
    rw [← e1]
    refine len_same taken_nodup ?_ fun x=>?_
    ·exact List.Pairwise.map _ (fun a b h e=>h (by omega)) List.nodup_range
    ·rw [taken_mem,List.mem_map]
     constructor
     ·rintro ⟨h1,h2,_,_⟩
      exact ⟨x.toNat,List.mem_range.2 (by rw [e1] at *; omega),by omega⟩
     ·rintro ⟨a,ha,rfl⟩
      have:=List.mem_range.1 ha
      exact ⟨by omega,by omega,rfl,by simp⟩
   omega
  rw [hp] at hc
  rw [e]
  have:(([]:List Int).length:Int) < c:=by simp; omega
  rw [decide_eq_true this]
end Go.Z
/-
 LineTutte: what Prove finds is a first smallest set; what it does not find is not there.
-/
namespace Go.Z
open Go Go.Abs
theorem f119_congr {o:Option (List GUnit)} {below:Int} {a b:Option (List Int)} (h:a.getD []=b.getD []):f119 o below a=f119 o below b:=by
 have h1:∀ x,s116_0 a x=s116_0 b x:=by intro x; funext s; unfold s116_0; rw [h]
 have h2:∀ x,f143 a x=f143 b x:=by intro x; unfold f143 f116; rw [h1]
 have h3:s119_0 o below a=s119_0 o below b:=by funext s; unfold s119_0; simp only [h2]
 have h4:s119_1 o below a=s119_1 o below b:=rfl
 unfold f119
 rw [h3,h4,h]
structure ExtOk (n:Nat) (frm:Int) (ext:List Int):Prop where
 asc:ext.Pairwise (· < ·)
 low:∀ x∈ext,frm≤x
 high:∀ x∈ext,x < (n:Int)
section
variable {o:Option (List GUnit)} {below:Int} {n:Nat}
theorem loop_none {rec:RecS} {set:List Int} {set':Option (List Int)} (hn:n≤64) (h':set'.getD []=set) (hs:set.length≤64):∀ (k:Nat) (i:Nat),itF (s141 rec (n:Int) set') k (i:Int)=some none→∀ x:Nat,i≤x→x < n→∃ s',s'.getD []=set++[(x:Int)]∧rec s' ((x + 1:Nat):Int)=some none
 | 0,i,h=>by cases h
 | k + 1,i,h=>by
  intro x hix hxn
  rw [itF] at h
  have hlt:(i:Int) < (n:Int):=by omega
  have hw:wrapF .i64 ((i:Int) + 1)=((i + 1:Nat):Int):=wrap_nat (by omega)
  obtain ⟨s',g1,g2⟩:=grow_of (i:=(i:Int)) h' (by omega)
  have hc:=clO_of (a:=set') (by rw [h']; omega)
  cases hr:rec s' ((i + 1:Nat):Int) with
  | none=>
   have:s141 rec (n:Int) set' (i:Int)=none:=by
    unfold s141
    simp only [hlt,decide_true,cond_true,hc,obind_at,g1,hw,hr]
    rfl
   rw [this] at h; cases h
  | some r=>
   cases r with
   | none=>
    have:s141 rec (n:Int) set' (i:Int)=some (.inl ((i + 1:Nat):Int)):=by
     unfold s141
     simp only [hlt,decide_true,cond_true,hc,obind_at,g1,hw,hr]
    rw [this] at h
    by_cases hx:x=i
    ·subst hx; exact ⟨s',g2,hr⟩
    ·exact loop_none hn h' hs k (i + 1) h x (by omega) hxn
   | some y=>
    have:s141 rec (n:Int) set' (i:Int)=some (.inr (some y)):=by
     unfold s141
     simp only [hlt,decide_true,cond_true,hc,obind_at,g1,hw,hr]
    rw [this] at h; cases h
theorem loop_some {rec:RecS} {set:List Int} {set' y:Option (List Int)} (hn:n≤64) (h':set'.getD []=set) (hs:set.length≤64):∀ (k:Nat) (i:Nat),itF (s141 rec (n:Int) set') k (i:Int)=some (some y)→∃ (x:Nat) (s':Option (List Int)),i≤x∧x < n∧s'.getD []=set++[(x:Int)]∧rec s' ((x + 1:Nat):Int)=some (some y)
 | 0,i,h=>by cases h
 | k + 1,i,h=>by
  rw [itF] at h
  by_cases hlt:(i:Int) < (n:Int)
  ·have hw:wrapF .i64 ((i:Int) + 1)=((i + 1:Nat):Int):=wrap_nat (by omega)
   obtain ⟨s',g1,g2⟩:=grow_of (i:=(i:Int)) h' (by omega)
   have hc:=clO_of (a:=set') (by rw [h']; omega)
   cases hr:rec s' ((i + 1:Nat):Int) with
   | none=>
    have:s141 rec (n:Int) set' (i:Int)=none:=by
     unfold s141
     simp only [hlt,decide_true,cond_true,hc,obind_at,g1,hw,hr]
     rfl
    rw [this] at h; cases h
   | some r=>
    cases r with
    | none=>
     have:s141 rec (n:Int) set' (i:Int)=some (.inl ((i + 1:Nat):Int)):=by
      unfold s141
      simp only [hlt,decide_true,cond_true,hc,obind_at,g1,hw,hr]
     rw [this] at h
     obtain ⟨x,s'',h1,h2⟩:=loop_some hn h' hs k (i + 1) h
     exact ⟨x,s'',by omega,h2⟩
    | some z=>
     have:s141 rec (n:Int) set' (i:Int)=some (.inr (some z)):=by
      unfold s141
      simp only [hlt,decide_true,cond_true,hc,obind_at,g1,hw,hr]
     rw [this] at h
     cases h
     exact ⟨i,s',by omega,by omega,g2,hr⟩
  ·have:s141 rec (n:Int) set' (i:Int)=some (.inr none):=by
    unfold s141
    simp only [hlt,decide_false,cond_false]
   rw [this] at h; cases h
theorem none_all (hn:n≤64) {size:Nat} (hsz:size≤64):∀ (k m:Nat) (set:List Int) (set':Option (List Int)) (frm:Nat),set'.getD []=set→set.length + m=size→f141 o below (n:Int) (size:Int) k set' (frm:Int)=some none →
  ∀ ext,ext.length=m→ExtOk n (frm:Int) ext→∀ a2:Option (List Int),a2.getD []=set++ext→f119 o below a2=some false
 | 0,m,set,set',frm,_,_,h=>by cases h
 | k + 1,m,set,set',frm,h',hm,h=>by
  intro ext hel hext a2 ha
  have h:F141 o below (n:Int) (size:Int) (f141 o below (n:Int) (size:Int) k) set' (frm:Int)=some none:=h
  unfold F141 at h
  cases m with
  | zero=>
   have he:(set.length:Int)=(size:Int):=by omega
   have hx:ext=[]:=List.length_eq_zero_iff.1 hel
   subst hx
   have hc:=clO_of (a:=set') (by rw [h']; omega)
   simp only [h',he,decide_true,cond_true,hc,obind_at] at h
   obtain ⟨b,h1,h⟩:=obind_some h
   cases b with
   | true=>cases h
   | false=>
    rw [List.append_nil] at ha
    rw [f119_congr (b:=set') (by rw [ha,h'])]
    exact h1
  | succ m=>
   have hne:¬ (set.length:Int)=(size:Int):=by omega
   simp only [h',hne,decide_false,cond_false] at h
   cases ext with
   | nil=>simp at hel
   | cons x ext=>
    have hx1:=hext.low x (List.mem_cons_self ..)
    have hx2:=hext.high x (List.mem_cons_self ..)
    obtain ⟨kk,hk⟩:=itO_iff.1 h
    obtain ⟨s',g1,g2⟩:=loop_none hn h' (by omega) kk frm hk x.toNat (by omega) (by omega)
    rw [show ((x.toNat:Nat):Int)=x by omega] at g1
    have hp:=List.pairwise_cons.1 hext.asc
    exact none_all hn hsz k m (set++[x]) s' (x.toNat + 1) g1 (by rw [List.length_append,List.length_singleton]; omega) g2 ext (by simpa using hel) ⟨hp.2,fun y hy=>by have:=hp.1 y hy; omega,fun y hy=>hext.high y (List.mem_cons_of_mem _ hy)⟩ a2 (by rw [ha,List.append_assoc]; rfl)
theorem some_one (hn:n≤64) {size:Nat} (hsz:size≤64):∀ (k m:Nat) (set:List Int) (set' y:Option (List Int)) (frm:Nat),set'.getD []=set→set.length + m=size→f141 o below (n:Int) (size:Int) k set' (frm:Int)=some (some y) →
  ∃ ext,y.getD []=set++ext∧ext.length=m∧ExtOk n (frm:Int) ext∧f119 o below y=some true
 | 0,m,set,set',y,frm,_,_,h=>by cases h
 | k + 1,m,set,set',y,frm,h',hm,h=>by
  have h:F141 o below (n:Int) (size:Int) (f141 o below (n:Int) (size:Int) k) set' (frm:Int)=some (some y):=h
  unfold F141 at h
  cases m with
  | zero=>
   have he:(set.length:Int)=(size:Int):=by omega
   have hc:=clO_of (a:=set') (by rw [h']; omega)
   simp only [h',he,decide_true,cond_true,hc,obind_at] at h
   obtain ⟨b,h1,h⟩:=obind_some h
   cases b with
   | false=>cases h
   | true=>
    cases h
    exact ⟨[],by rw [List.append_nil]; exact h',rfl,⟨List.Pairwise.nil,by simp,by simp⟩,h1⟩
  | succ m=>
   have hne:¬ (set.length:Int)=(size:Int):=by omega
   simp only [h',hne,decide_false,cond_false] at h
   obtain ⟨kk,hk⟩:=itO_iff.1 h
   obtain ⟨x,s',q1,q2,g1,g2⟩:=loop_some hn h' (by omega) kk frm hk
   obtain ⟨ext,e1,e2,e3,e4⟩:=some_one hn hsz k m (set++[(x:Int)]) s' y (x + 1) g1 (by rw [List.length_append,List.length_singleton]; omega) g2
   refine ⟨(x:Int)::ext,by rw [e1,List.append_assoc]; rfl,by simp [e2],⟨?_,fun z hz=>?_,fun z hz=>?_⟩,e4⟩
   ·exact List.pairwise_cons.2 ⟨fun z hz=>by have:=e3.low z hz; omega,e3.asc⟩
   ·rcases List.mem_cons.1 hz with rfl | hz
    ·omega
    ·have:=e3.low z hz; omega
   ·rcases List.mem_cons.1 hz with rfl | hz
    ·omega
    ·exact e3.high z hz
end
end Go.Z
/-
 LineTutte: what the proof finds: a smallest set that proves,or no set proves.
-/
namespace Go.Z
open Go Go.Abs
theorem set_ext {n:Nat} {set:List Int} (h:SetOk n set):ExtOk n 0 set:=⟨h.asc,fun x hx=>(h.ins x hx).1,fun x hx=>(h.ins x hx).2⟩
theorem ext_set {n:Nat} {set:List Int} (h:ExtOk n 0 set):SetOk n set:=⟨h.asc,fun x hx=>⟨h.low x hx,h.high x hx⟩⟩
theorem prove_spec {o:Option (List GUnit)} {below:Int} {n:Nat} (ho:(o.getD []).length=n) (hn:n≤8):∀ (k i:Nat) (e:Int ⊕ (Int × Option (List Int))),itF (s60 o below) k (i:Int)=some e→(match e with
  | .inl _=>∀ set,SetOk n set→i≤set.length→set.length≤n→∀ a2:Option (List Int),a2.getD []=set→f119 o below a2=some false
  | .inr z=>SetOk n (z.2.getD [])∧f119 o below z.2=some true∧(z.2.getD []).length≤n∧∀ set,SetOk n set→i≤set.length→set.length < (z.2.getD []).length→∀ a2:Option (List Int),a2.getD []=set→f119 o below a2=some false)
 | 0,i,e,h=>by cases h
 | k + 1,i,e,h=>by
  rw [itF] at h
  have hw1:wrapF .i64 ((n:Int) + 1)=((n + 1:Nat):Int):=wrap_nat (by omega)
  by_cases hi:i < n + 1
  ·have h1:(i:Int) < ((n + 1:Nat):Int):=by omega
   have hw:wrapF .i64 ((i:Int) + 1)=((i + 1:Nat):Int):=wrap_nat (by omega)
   cases hr:f141 o below (n:Int) (i:Int) 12 none 0 with
   | none=>
    have:s60 o below (i:Int)=none:=by
     unfold s60; simp only [ho,hw1,h1,decide_true,cond_true,hr]; rfl
    rw [this] at h; cases h
   | some r=>
    cases r with
    | none=>
     have:s60 o below (i:Int)=some (.inl ((i + 1:Nat):Int)):=by
      unfold s60; simp only [ho,hw1,h1,decide_true,cond_true,hr,obind_at,hw]
     rw [this] at h
     have hno:∀ set,SetOk n set→set.length=i→∀ a2:Option (List Int),a2.getD []=set→f119 o below a2=some false:=by
      intro set hs hl a2 ha
      exact none_all (frm:=0) (by omega) (by omega) 12 i [] none rfl (by simp) hr set hl (set_ext hs) a2 (by rw [ha]; rfl)
     have ih:=prove_spec ho hn k (i + 1) e h
     cases e with
     | inl j=>
      intro set hs h2 h3 a2 ha
      by_cases hl:set.length=i
      ·exact hno set hs hl a2 ha
      ·exact ih set hs (by omega) h3 a2 ha
     | inr z=>
      obtain ⟨g1,g2,g3,g4⟩:=ih
      refine ⟨g1,g2,g3,fun set hs h2 h3 a2 ha=>?_⟩
      by_cases hl:set.length=i
      ·exact hno set hs hl a2 ha
      ·exact g4 set hs (by omega) h3 a2 ha
    | some y=>
     have:s60 o below (i:Int)=some (.inr (.inr ((i:Int),y))):=by
      unfold s60; simp only [ho,hw1,h1,decide_true,cond_true,hr,obind_at]
     rw [this] at h
     cases h
     obtain ⟨ext,e1,e2,e3,e4⟩:=some_one (frm:=0) (by omega) (by omega) 12 i [] none y rfl (by simp) hr
     have e1:y.getD []=ext:=by rw [e1]; rfl
     refine ⟨by rw [e1]; exact ext_set e3,e4,by rw [e1]; omega,fun set hs h2 h3=>?_⟩
     rw [e1] at h3
     omega
  ·have h1:¬ (i:Int) < ((n + 1:Nat):Int):=by omega
   have:s60 o below (i:Int)=some (.inr (.inl (i:Int))):=by
    unfold s60; simp only [ho,hw1,h1,decide_false,cond_false]
   rw [this] at h
   cases h
   intro set hs h2 h3
   omega
theorem prove_spec0 {o:Option (List GUnit)} {below:Int} {n:Nat} (ho:(o.getD []).length=n) (hn:n≤8) {e:Int ⊕ (Int × Option (List Int))} (h:itO (s60 o below) 0=some e):(match e with
  | .inl _=>∀ set,SetOk n set→∀ a2:Option (List Int),a2.getD []=set→f119 o below a2=some false
  | .inr z=>SetOk n (z.2.getD [])∧f119 o below z.2=some true∧(z.2.getD []).length≤n∧∀ set,SetOk n set→set.length < (z.2.getD []).length→∀ a2:Option (List Int),a2.getD []=set→f119 o below a2=some false):=by
 obtain ⟨k,hk⟩:=itO_iff.1 h
 have hl:∀ set,SetOk n set→set.length≤n:=fun set hs=>free_len (s:=[]) (hs.asc.imp (fun h e=>by omega)) fun x hx=>⟨(hs.ins x hx).1,(hs.ins x hx).2,by simp⟩
 have:=prove_spec ho hn k 0 e hk
 cases e with
 | inl j=>exact fun set hs=>this set hs (by omega) (hl set hs)
 | inr z=>exact ⟨this.1,this.2.1,this.2.2.1,fun set hs h3=>this.2.2.2 set hs (by omega) h3⟩
end Go.Z
