/- Plain Lean: which number a word is. -/
import Derived.Test.YtancajcelmhnkaaGreatDoorGz
set_option maxRecDepth 100000
set_option maxHeartbeats 4000000
namespace Go.Proofs.YtancajcelmhnkaaGreatDoor
set_option linter.unusedVariables false
theorem dec_snoc (l:List UInt8):∀ (acc:Nat) (b:UInt8) (d:Nat),Lib.digitVal b=some d→Lib.decFrom acc (l++[b])=(Lib.decFrom acc l).map fun n=>n * 10+d:=by
 induction l with
 | nil=>intro acc b d h;simp [Lib.decFrom,h]
 | cons c l ih =>
  intro acc b d h
  rw [List.cons_append,Lib.decFrom,Lib.decFrom]
  cases Lib.digitVal c with
  | none=>rfl
  | some v=>exact ih _ b d h
theorem digit_of:∀ d:Fin 10,Lib.digitVal (UInt8.ofNat (48+d.val))=some d.val:=by decide +kernel
theorem digit_in:∀ d:Fin 10,48≤(UInt8.ofNat (48+d.val)).toNat∧(UInt8.ofNat (48+d.val)).toNat≤57:=by decide +kernel
theorem dec_digits (u:Nat):Lib.decFrom 0 (Lib.decDigits u)=some u:=by
 induction u using Nat.strongRecOn with
 | _ u ih =>
  rw [Lib.decDigits]
  split
  ·rename_i h
   have:=digit_of ⟨u,h⟩
   simp only at this
   rw [Lib.decFrom,this]
   simp only [Lib.decFrom,Nat.zero_mul,Nat.zero_add]
  ·rename_i h
   have h1:=digit_of ⟨u % 10,by omega⟩
   simp only at h1
   rw [dec_snoc _ _ _ _ h1,ih (u / 10) (by omega)]
   simp only [Option.map_some,Option.some.injEq]
   omega
theorem digits_ne (u:Nat):Lib.decDigits u ≠ []:=by
 rw [Lib.decDigits]
 split <;> simp
theorem digits_all (u:Nat):∀ b ∈ Lib.decDigits u,48≤b.toNat∧b.toNat≤57:=by
 induction u using Nat.strongRecOn with
 | _ u ih =>
  intro b hb
  rw [Lib.decDigits] at hb
  split at hb
  ·rename_i h
   rw [List.mem_singleton.1 hb]
   exact digit_in ⟨u,h⟩
  ·rename_i h
   rcases List.mem_append.1 hb with hb | hb
   ·exact ih _ (by omega) b hb
   ·rw [List.mem_singleton.1 hb]
    exact digit_in ⟨u % 10,by omega⟩
theorem decNat_digits (u:Nat):Lib.decNat (Lib.decDigits u)=some u:=by
 unfold Lib.decNat
 rw [if_neg (by simpa using digits_ne u)]
 exact dec_digits u
theorem atoi_itoa (n:Int):Lib.atoi (Lib.itoa n)=some n:=by
 unfold Lib.itoa
 split
 ·rename_i h
  simp only [Lib.atoi,decNat_digits]
  simp
  omega
 ·rename_i h
  have hd:=digits_all n.toNat
  have hv:=decNat_digits n.toNat
  cases e:Lib.decDigits n.toNat with
  | nil=>exact absurd e (digits_ne _)
  | cons b r =>
   rw [e] at hd hv
   have hb:=hd b List.mem_cons_self
   have h1:(b == 45)=false:=by
    apply beq_eq_false_iff_ne.2
    rintro rfl
    exact absurd hb.1 (by decide)
   have h2:(b == 43)=false:=by
    apply beq_eq_false_iff_ne.2
    rintro rfl
    exact absurd hb.1 (by decide)
   simp only [Lib.atoi,h1,h2,hv]
   simp
   omega
theorem nDigits_le:∀ (k u:Nat),u<10 ^ (k+1)→Lib.nDigits u≤k+1
 | 0,u,h=>by rw [Lib.nDigits_small (by simpa using h)];exact Nat.le_refl _
 | k+1,u,h=>by
  by_cases hu:u<10
  ·rw [Lib.nDigits_small hu];omega
  ·rw [Lib.nDigits_big hu]
   have:=nDigits_le k (u / 10) (by rw [Nat.div_lt_iff_lt_mul (by decide)];rwa [Nat.pow_succ] at h)
   omega
theorem itoa_short {n:Int} (h1:-10000000000000000<n) (h2:n<10000000000000000):(Lib.itoa n).length≤18:=by
 unfold Lib.itoa
 split
 ·rw [List.length_cons,Lib.decDigits_length]
  have:=nDigits_le 15 n.natAbs (by simp only [Nat.reduceAdd,Nat.reducePow];omega)
  omega
 ·rw [Lib.decDigits_length]
  have:=nDigits_le 15 n.toNat (by simp only [Nat.reduceAdd,Nat.reducePow];omega)
  omega
theorem atoiAll_itoa {n:Int} (h1:-10000000000000000<n) (h2:n<10000000000000000):Lib.atoiAll (Lib.itoa n)=.ok n:=by
 rw [Lib.atoiAll_short _ (itoa_short h1 h2),atoi_itoa]
 rfl
theorem itoa_inj {n m:Int} (h:Lib.itoa n=Lib.itoa m):n=m:=by
 have:=congrArg Lib.atoi h
 rw [atoi_itoa,atoi_itoa] at this
 exact Option.some.inj this
open Classical in
noncomputable def numV (lo hi:Int) (l:List UInt8):Option Int:=if h:∃ n,l=Lib.itoa n∧lo≤n∧n≤hi then some h.choose else none
theorem numV_some {lo hi n:Int} (h1:lo≤n) (h2:n≤hi):numV lo hi (Lib.itoa n)=some n:=by
 have h:∃ m,Lib.itoa n=Lib.itoa m∧lo≤m∧m≤hi:=⟨n,rfl,h1,h2⟩
 unfold numV
 rw [dif_pos h,← itoa_inj h.choose_spec.1]
theorem numV_none {lo hi:Int} {l:List UInt8} (h:∀ n,l=Lib.itoa n→lo≤n→n≤hi→False):numV lo hi l=none:=by
 unfold numV
 rw [dif_neg]
 rintro ⟨n,h1,h2,h3⟩
 exact h n h1 h2 h3
noncomputable def nuV (s:ByteArray):Option Int:=numV (-1125899906842624) 1125899906842624 s.data.toList
theorem numV_atoi {lo hi:Int} (hlo:-10000000000000000<lo) (hhi:hi<10000000000000000) {l:List UInt8} (h:∀ v,Lib.atoiAll l=.ok v→l=Lib.itoa v→lo≤v→v≤hi→False):numV lo hi l=none:=numV_none fun n h1 h2 h3=>by
 refine h n ?_ h1 h2 h3
 rw [h1]
 exact atoiAll_itoa (by omega) (by omega)
def letV (s:ByteArray):Int:=if s=⟨#[112]⟩ then 1 else if s=⟨#[103]⟩ then 2 else if s=⟨#[99]⟩ then 4 else if s=⟨#[102]⟩ then 8 else if s=⟨#[108]⟩ then 16 else 0
theorem letV_cases (s:ByteArray):(letV s=1∧s=⟨#[112]⟩)∨(letV s=2∧s=⟨#[103]⟩)∨(letV s=4∧s=⟨#[99]⟩)∨(letV s=8∧s=⟨#[102]⟩)∨(letV s=16∧s=⟨#[108]⟩)∨(letV s=0∧s ≠ ⟨#[112]⟩∧s ≠ ⟨#[103]⟩∧s ≠ ⟨#[99]⟩∧s ≠ ⟨#[102]⟩∧s ≠ ⟨#[108]⟩):=by
 by_cases h1:s=⟨#[112]⟩
 ·subst h1;exact .inl ⟨by decide,rfl⟩
 by_cases h2:s=⟨#[103]⟩
 ·subst h2;exact .inr (.inl ⟨by decide,rfl⟩)
 by_cases h3:s=⟨#[99]⟩
 ·subst h3;exact .inr (.inr (.inl ⟨by decide,rfl⟩))
 by_cases h4:s=⟨#[102]⟩
 ·subst h4;exact .inr (.inr (.inr (.inl ⟨by decide,rfl⟩)))
 by_cases h5:s=⟨#[108]⟩
 ·subst h5;exact .inr (.inr (.inr (.inr (.inl ⟨by decide,rfl⟩))))
 ·refine .inr (.inr (.inr (.inr (.inr ⟨?_,h1,h2,h3,h4,h5⟩))))
  unfold letV
  rw [if_neg h1,if_neg h2,if_neg h3,if_neg h4,if_neg h5]
theorem itoa_form (n:Int):(n<0∧Lib.itoa n=45 :: Lib.decDigits n.natAbs)∨(0≤n∧Lib.itoa n=Lib.decDigits n.toNat):=by
 unfold Lib.itoa
 split
 ·rename_i h;exact .inl ⟨h,rfl⟩
 ·rename_i h;exact .inr ⟨by omega,rfl⟩
def opV (s:ByteArray):Int :=
 if s=wTrue then 1 else if s=wCrop then 2 else if s=wFamily then 3 else if s=wMark then 4 else if s=wZone then 5 else if s=wSame then 6
 else if s=wBefore then 7 else if s=wKnown then 8 else if s=wAnd then 9 else if s=wOr then 10 else if s=wNot then 11 else 0
theorem opV_word:∀ k:Fin 11,opV (opWord (k.val+1))=k.val+1:=by decide
theorem opV_cases (s:ByteArray):(opV s=1∧s=wTrue)∨(opV s=2∧s=wCrop)∨(opV s=3∧s=wFamily)∨(opV s=4∧s=wMark)∨(opV s=5∧s=wZone)∨(opV s=6∧s=wSame)∨(opV s=7∧s=wBefore)∨(opV s=8∧s=wKnown)∨(opV s=9∧s=wAnd)∨(opV s=10∧s=wOr)∨(opV s=11∧s=wNot) ∨
  (opV s=0∧s ≠ wTrue∧s ≠ wCrop∧s ≠ wFamily∧s ≠ wMark∧s ≠ wZone∧s ≠ wSame∧s ≠ wBefore∧s ≠ wKnown∧s ≠ wAnd∧s ≠ wOr∧s ≠ wNot):=by
 by_cases h1:s=wTrue
 ·subst h1;exact .inl ⟨by decide,rfl⟩
 by_cases h2:s=wCrop
 ·subst h2;exact .inr (.inl ⟨by decide,rfl⟩)
 by_cases h3:s=wFamily
 ·subst h3;exact .inr (.inr (.inl ⟨by decide,rfl⟩))
 by_cases h4:s=wMark
 ·subst h4;exact .inr (.inr (.inr (.inl ⟨by decide,rfl⟩)))
 by_cases h5:s=wZone
 ·subst h5;exact .inr (.inr (.inr (.inr (.inl ⟨by decide,rfl⟩))))
 by_cases h6:s=wSame
 ·subst h6;exact .inr (.inr (.inr (.inr (.inr (.inl ⟨by decide,rfl⟩)))))
 by_cases h7:s=wBefore
 ·subst h7;exact .inr (.inr (.inr (.inr (.inr (.inr (.inl ⟨by decide,rfl⟩))))))
 by_cases h8:s=wKnown
 ·subst h8;exact .inr (.inr (.inr (.inr (.inr (.inr (.inr (.inl ⟨by decide,rfl⟩)))))))
 by_cases h9:s=wAnd
 ·subst h9;exact .inr (.inr (.inr (.inr (.inr (.inr (.inr (.inr (.inl ⟨by decide,rfl⟩))))))))
 by_cases h10:s=wOr
 ·subst h10;exact .inr (.inr (.inr (.inr (.inr (.inr (.inr (.inr (.inr (.inl ⟨by decide,rfl⟩)))))))))
 by_cases h11:s=wNot
 ·subst h11;exact .inr (.inr (.inr (.inr (.inr (.inr (.inr (.inr (.inr (.inr (.inl ⟨by decide,rfl⟩))))))))))
 ·refine .inr (.inr (.inr (.inr (.inr (.inr (.inr (.inr (.inr (.inr (.inr ⟨?_,h1,h2,h3,h4,h5,h6,h7,h8,h9,h10,h11⟩))))))))))
  unfold opV
  rw [if_neg h1,if_neg h2,if_neg h3,if_neg h4,if_neg h5,if_neg h6,if_neg h7,if_neg h8,if_neg h9,if_neg h10,if_neg h11]
mutual
inductive Rd:List ByteArray→Tm→List ByteArray→Prop
 | one (s ws):opV s=1→Rd (s :: ws) (.mk 1 0 0 []) ws
 | num (s x ws op n):opV s=op→(op=2∨op=3∨op=5∨op=6∨op=8)→nuV x=some n→Rd (s :: x :: ws) (.mk op n 0 []) ws
 | mark (s x ws m):opV s=4→letV x=m→m ≠ 0→Rd (s :: x :: ws) (.mk 4 m 0 []) ws
 | bef (s x y ws n m):opV s=7→nuV x=some n→letV y=m→m ≠ 0→Rd (s :: x :: y :: ws) (.mk 7 n m []) ws
 | not (s ws k r):opV s=11→Rd ws k r→Rd (s :: ws) (.mk 11 0 0 [k]) r
 | list (s ws kids r op):opV s=op→(op=9∨op=10)→Rl ws kids r→Rd (s :: wOpen :: ws) (.mk op 0 0 kids) r
inductive Rl:List ByteArray→List Tm→List ByteArray→Prop
 | nil (ws):Rl (wClose :: ws) [] ws
 | cons (ws k r ks r'):Rd ws k r→Rl r ks r'→Rl ws (k :: ks) r'
end
theorem opV_close:opV wClose=0:=by decide
theorem Rd.head {ws t r} (h:Rd ws t r):∃ s l,ws=s :: l∧opV s ≠ 0:=by
 cases h with
 | one s ws h=>exact ⟨_,_,rfl,by omega⟩
 | num s x ws op n h h' _=>exact ⟨_,_,rfl,by omega⟩
 | mark s x ws m h _ _=>exact ⟨_,_,rfl,by omega⟩
 | bef s x y ws n m h _ _ _=>exact ⟨_,_,rfl,by omega⟩
 | not s ws k r h _=>exact ⟨_,_,rfl,by omega⟩
 | list s ws kids r op h h' _=>exact ⟨_,_,rfl,by omega⟩
theorem Rd.no_close {ws t r}:¬ Rd (wClose :: ws) t r:=fun h=>by
 obtain ⟨s,l,e,k⟩:=h.head
 cases e
 exact k opV_close
theorem Rd.no_nil {t r}:¬ Rd [] t r:=fun h=>by
 obtain ⟨s,l,e,k⟩:=h.head
 cases e
theorem rd_less (n:Nat):(∀ ws t r,ws.length≤n→Rd ws t r→r.length<ws.length)∧(∀ ws ks r,ws.length≤n→Rl ws ks r→r.length<ws.length):=by
 induction n with
 | zero =>
  refine ⟨fun ws t r hn h=>?_,fun ws ks r hn h=>?_⟩
  ·obtain ⟨s,l,rfl,_⟩:=h.head
   simp at hn
  ·have:ws=[]:=List.eq_nil_of_length_eq_zero (by omega)
   subst this
   cases h with
   | cons _ k r ks r' h1 h2=>exact absurd h1 Rd.no_nil
 | succ n ih =>
  have hd:∀ ws t r,ws.length≤n+1→Rd ws t r→r.length<ws.length:=fun ws t r hn h=>by
   cases h with
   | one s ws h=>simp
   | num s x ws op n h h' _=>simp;omega
   | mark s x ws m h _ _=>simp;omega
   | bef s x y ws n m h _ _ _=>simp;omega
   | not s ws k r h h2=>have:=ih.1 _ _ _ (by simpa using hn) h2;simp;omega
   | list s ws kids r op h h' h2=>have:=ih.2 _ _ _ (by simp at hn;omega) h2;simp;omega
  refine ⟨hd,fun ws ks=>?_⟩
  intro r hn h
  cases h with
  | nil ws=>simp
  | cons _ k r1 ks r' h1 h2 =>
   have a:=hd _ _ _ hn h1
   have b:=ih.2 _ _ _ (by omega) h2
   omega
theorem Rd.less {ws t r} (h:Rd ws t r):r.length<ws.length:=(rd_less ws.length).1 ws t r (Nat.le_refl _) h
theorem Rl.less {ws t r} (h:Rl ws t r):r.length<ws.length:=(rd_less ws.length).2 ws t r (Nat.le_refl _) h
theorem rd_uniq (n:Nat):(∀ ws t r t' r',ws.length≤n→Rd ws t r→Rd ws t' r'→t=t'∧r=r')∧(∀ ws t r t' r',ws.length≤n→Rl ws t r→Rl ws t' r'→t=t'∧r=r'):=by
 induction n with
 | zero =>
  refine ⟨fun ws t r t' r' hn h=>?_,fun ws ks r t' r' hn h=>?_⟩
  ·obtain ⟨s,l,rfl,_⟩:=h.head
   simp at hn
  ·have:ws=[]:=List.eq_nil_of_length_eq_zero (by omega)
   subst this
   cases h with
   | cons _ k r ks r' h1 h2=>exact absurd h1 Rd.no_nil
 | succ n ih =>
  have hd:∀ ws t r t' r',ws.length≤n+1→Rd ws t r→Rd ws t' r'→t=t'∧r=r':=fun ws t r t' r' hn h k=>by
   cases h with
   | one s ws h=>cases k <;> first | exact ⟨rfl,rfl⟩ | omega
   | num s x ws op n h h' hv=>cases k with
    | num _ _ _ op' n' k k' kv=>rw [hv] at kv;cases kv;subst h;subst k;exact ⟨rfl,rfl⟩
    | one=>omega
    | mark=>omega
    | bef=>omega
    | not=>omega
    | list=>omega
   | mark s x ws m h h2 h3=>cases k with
    | mark _ _ _ m' k k2 k3=>subst h2;subst k2;exact ⟨rfl,rfl⟩
    | num=>omega
    | one=>omega
    | bef=>omega
    | not=>omega
    | list=>omega
   | bef s x y ws n m h h2 h3 h4=>cases k with
    | bef _ _ _ _ n' m' k k2 k3 k4=>rw [h2] at k2;cases k2;subst h3;subst k3;exact ⟨rfl,rfl⟩
    | one=>omega
    | num=>omega
    | mark=>omega
    | not=>omega
    | list=>omega
   | not s ws k1 r h h2=>cases k with
    | not _ _ k1' r' k k2 =>
     obtain ⟨rfl,rfl⟩:=ih.1 _ _ _ _ _ (by simpa using hn) h2 k2
     exact ⟨rfl,rfl⟩
    | one=>omega
    | num=>omega
    | mark=>omega
    | bef=>omega
    | list=>omega
   | list s ws kids r op h h' h2=>cases k with
    | list _ _ kids' r' op' k k' k2 =>
     obtain ⟨rfl,rfl⟩:=ih.2 _ _ _ _ _ (by simp at hn;omega) h2 k2
     subst h;subst k
     exact ⟨rfl,rfl⟩
    | one=>omega
    | num=>omega
    | mark=>omega
    | bef=>omega
    | not=>omega
  refine ⟨hd,fun ws ks r ks' r' hn h k=>?_⟩
  cases h with
  | nil ws=>cases k with
   | nil=>exact ⟨rfl,rfl⟩
   | cons _ _ _ _ _ k1 _=>exact absurd k1 Rd.no_close
  | cons _ k0 r1 ks1 _ h1 h2=>cases k with
   | nil=>exact absurd h1 Rd.no_close
   | cons _ k0' r1' ks1' _ k1 k2 =>
    obtain ⟨rfl,rfl⟩:=hd _ _ _ _ _ hn h1 k1
    obtain ⟨rfl,rfl⟩:=ih.2 _ _ _ _ _ (by have:=h1.less;omega) h2 k2
    exact ⟨rfl,rfl⟩
theorem Rd.uniq {ws t r t' r'} (h:Rd ws t r) (k:Rd ws t' r'):t=t'∧r=r':=(rd_uniq ws.length).1 _ _ _ _ _ (Nat.le_refl _) h k
theorem Rl.uniq {ws t r t' r'} (h:Rl ws t r) (k:Rl ws t' r'):t=t'∧r=r':=(rd_uniq ws.length).2 _ _ _ _ _ (Nat.le_refl _) h k
inductive Rp:List ByteArray→List Tm→List ByteArray→Prop
 | nil (ws):Rp ws [] ws
 | snoc (ws L r k r'):Rp ws L r→Rd r k r'→Rp ws (L++[k]) r'
theorem Rp.on {ws L r} (h:Rp ws L r):∀ {ks r'},Rl r ks r'→Rl ws (L++ks) r':=by
 induction h with
 | nil=>intro ks r' h;exact h
 | snoc L r k r1 _ hk ih=>intro ks r' h;rw [List.append_assoc];exact ih (.cons _ _ _ _ _ hk h)
theorem Rp.back {ws L r} (h:Rp ws L r):∀ {ks r'},Rl ws ks r'→∃ ks',ks=L++ks'∧Rl r ks' r':=by
 induction h with
 | nil=>intro ks r' h;exact ⟨ks,rfl,h⟩
 | snoc L r k r1 _ hk ih =>
  intro ks r' h
  obtain ⟨ks',rfl,h'⟩:=ih h
  cases h' with
  | nil=>exact absurd hk Rd.no_close
  | cons _ k0 r2 ks1 _ h1 h2 =>
   obtain ⟨rfl,rfl⟩:=hk.uniq h1
   exact ⟨ks1,by rw [List.append_assoc];rfl,h2⟩
theorem Rp.len {ws L r} (h:Rp ws L r):r.length+L.length≤ws.length:=by
 induction h with
 | nil=>simp
 | snoc L r k r1 _ hk ih=>have:=hk.less;rw [List.length_append,List.length_singleton];omega
section
variable {s:ByteArray} {ws r:List ByteArray} {t:Tm}
theorem rdi_one (h:opV s=1):Rd (s :: ws) t r↔t=.mk 1 0 0 []∧r=ws:=by
 constructor
 ·intro k
  cases k with
  | one=>exact ⟨rfl,rfl⟩
  | num=>omega
  | mark=>omega
  | bef=>omega
  | not=>omega
  | list=>omega
 ·rintro ⟨rfl,rfl⟩;exact .one _ _ h
theorem rdi_num {op:Int} (h:opV s=op) (ho:op=2∨op=3∨op=5∨op=6∨op=8):Rd (s :: ws) t r↔∃ x n,ws=x :: r∧nuV x=some n∧t=.mk op n 0 []:=by
 constructor
 ·intro k
  cases k with
  | one=>omega
  | num _ x _ op' n k1 k2 k3=>subst h;subst k1;exact ⟨x,n,rfl,k3,rfl⟩
  | mark=>omega
  | bef=>omega
  | not=>omega
  | list=>omega
 ·rintro ⟨x,n,rfl,h3,rfl⟩;exact .num _ _ _ _ _ h ho h3
theorem rdi_mark (h:opV s=4):Rd (s :: ws) t r↔∃ x,ws=x :: r∧letV x ≠ 0∧t=.mk 4 (letV x) 0 []:=by
 constructor
 ·intro k
  cases k with
  | one=>omega
  | num=>omega
  | mark _ x _ m k1 k2 k3=>subst k2;exact ⟨x,rfl,k3,rfl⟩
  | bef=>omega
  | not=>omega
  | list=>omega
 ·rintro ⟨x,rfl,h3,rfl⟩;exact .mark _ _ _ _ h rfl h3
theorem rdi_bef (h:opV s=7):Rd (s :: ws) t r↔∃ x y n,ws=x :: y :: r∧nuV x=some n∧letV y ≠ 0∧t=.mk 7 n (letV y) []:=by
 constructor
 ·intro k
  cases k with
  | one=>omega
  | num=>omega
  | mark=>omega
  | bef _ x y _ n m k1 k2 k3 k4=>subst k3;exact ⟨x,y,n,rfl,k2,k4,rfl⟩
  | not=>omega
  | list=>omega
 ·rintro ⟨x,y,n,rfl,h3,h4,rfl⟩;exact .bef _ _ _ _ _ _ h h3 rfl h4
theorem rdi_not (h:opV s=11):Rd (s :: ws) t r↔∃ k,Rd ws k r∧t=.mk 11 0 0 [k]:=by
 constructor
 ·intro k
  cases k with
  | one=>omega
  | num=>omega
  | mark=>omega
  | bef=>omega
  | not _ _ k _ _ k2=>exact ⟨k,k2,rfl⟩
  | list=>omega
 ·rintro ⟨k,h2,rfl⟩;exact .not _ _ _ _ h h2
theorem rdi_list {op:Int} (h:opV s=op) (ho:op=9∨op=10):Rd (s :: ws) t r↔∃ ws1 ks,ws=wOpen :: ws1∧Rl ws1 ks r∧t=.mk op 0 0 ks:=by
 constructor
 ·intro k
  cases k with
  | one=>omega
  | num=>omega
  | mark=>omega
  | bef=>omega
  | not=>omega
  | list _ ws1 kids _ op' k1 k2 k3=>subst h;subst k1;exact ⟨ws1,kids,rfl,k3,rfl⟩
 ·rintro ⟨ws1,ks,rfl,h2,rfl⟩;exact .list _ _ _ _ _ h ho h2
theorem rdi_zero (h:opV s=0):¬ Rd (s :: ws) t r:=fun k=>by
 obtain ⟨s',l,e,h'⟩:=k.head
 cases e
 exact h' h
theorem rl_close:Rl (wClose :: ws) [] ws:=.nil _
theorem rl_none {ks:List Tm} (h1:∀ t r,¬ Rd ws t r) (h2:∀ l,ws ≠ wClose :: l):¬ Rl ws ks r:=fun k=>by
 cases k with
 | nil=>exact h2 _ rfl
 | cons _ k r1 ks1 _ a b=>exact h1 _ _ a
end
end Go.Proofs.YtancajcelmhnkaaGreatDoor
namespace Go.Proofs.YtancajcelmhnkaaGreatDoor
open Go.RowKit Go.Sort Go.Shelf
set_option linter.unusedVariables false
set_option linter.unusedSimpArgs false
theorem rops_any (p:Nat) (h1:1≤p) (h2:p≤11) (w:World):Calls Tryz.prog 115 #[.int .i64 (p:Int)] w fun e w'=>e=.returned (.string (opWord p))∧Below w.heap.size w w':=by
 have hc:p=1∨p=2∨p=3∨p=4∨p=5∨p=6∨p=7∨p=8∨p=9∨p=10∨p=11:=by omega
 rcases hc with rfl | rfl | rfl | rfl | rfl | rfl | rfl | rfl | rfl | rfl | rfl
 ·show Calls Tryz.prog 115 #[.int .i64 1] w fun e w'=>e=.returned (.string ⟨#[116,114,117,101]⟩)∧Below w.heap.size w w'
  go_enter Tryz.func115,Tryz.ntmps115
  go_wp2
  go_ret
  exact ⟨rfl,Bw.out⟩
 ·show Calls Tryz.prog 115 #[.int .i64 2] w fun e w'=>e=.returned (.string ⟨#[99,114,111,112]⟩)∧Below w.heap.size w w'
  go_enter Tryz.func115,Tryz.ntmps115
  go_wp2
  go_ret
  exact ⟨rfl,Bw.out⟩
 ·show Calls Tryz.prog 115 #[.int .i64 3] w fun e w'=>e=.returned (.string ⟨#[102,97,109,105,108,121]⟩)∧Below w.heap.size w w'
  go_enter Tryz.func115,Tryz.ntmps115
  go_wp2
  go_ret
  exact ⟨rfl,Bw.out⟩
 ·show Calls Tryz.prog 115 #[.int .i64 4] w fun e w'=>e=.returned (.string ⟨#[109,97,114,107]⟩)∧Below w.heap.size w w'
  go_enter Tryz.func115,Tryz.ntmps115
  go_wp2
  go_ret
  exact ⟨rfl,Bw.out⟩
 ·show Calls Tryz.prog 115 #[.int .i64 5] w fun e w'=>e=.returned (.string ⟨#[122,111,110,101]⟩)∧Below w.heap.size w w'
  go_enter Tryz.func115,Tryz.ntmps115
  go_wp2
  go_ret
  exact ⟨rfl,Bw.out⟩
 ·show Calls Tryz.prog 115 #[.int .i64 6] w fun e w'=>e=.returned (.string ⟨#[115,97,109,101]⟩)∧Below w.heap.size w w'
  go_enter Tryz.func115,Tryz.ntmps115
  go_wp2
  go_ret
  exact ⟨rfl,Bw.out⟩
 ·show Calls Tryz.prog 115 #[.int .i64 7] w fun e w'=>e=.returned (.string ⟨#[98,101,102,111,114,101]⟩)∧Below w.heap.size w w'
  go_enter Tryz.func115,Tryz.ntmps115
  go_wp2
  go_ret
  exact ⟨rfl,Bw.out⟩
 ·show Calls Tryz.prog 115 #[.int .i64 8] w fun e w'=>e=.returned (.string ⟨#[107,110,111,119,110]⟩)∧Below w.heap.size w w'
  go_enter Tryz.func115,Tryz.ntmps115
  go_wp2
  go_ret
  exact ⟨rfl,Bw.out⟩
 ·show Calls Tryz.prog 115 #[.int .i64 9] w fun e w'=>e=.returned (.string ⟨#[97,110,100]⟩)∧Below w.heap.size w w'
  go_enter Tryz.func115,Tryz.ntmps115
  go_wp2
  go_ret
  exact ⟨rfl,Bw.out⟩
 ·show Calls Tryz.prog 115 #[.int .i64 10] w fun e w'=>e=.returned (.string ⟨#[111,114]⟩)∧Below w.heap.size w w'
  go_enter Tryz.func115,Tryz.ntmps115
  go_wp2
  go_ret
  exact ⟨rfl,Bw.out⟩
 ·show Calls Tryz.prog 115 #[.int .i64 11] w fun e w'=>e=.returned (.string ⟨#[110,111,116]⟩)∧Below w.heap.size w w'
  go_enter Tryz.func115,Tryz.ntmps115
  go_wp2
  go_ret
  exact ⟨rfl,Bw.out⟩
end Go.Proofs.YtancajcelmhnkaaGreatDoor
