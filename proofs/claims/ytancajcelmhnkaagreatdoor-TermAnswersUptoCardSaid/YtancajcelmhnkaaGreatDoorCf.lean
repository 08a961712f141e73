/- IndexFunc and ContainsFunc over slices of structs,for any function value that answers at the slice's elements. (Printed by gen4/cf.py.) -/
import Derived.Test.YtancajcelmhnkaaGreatDoorGc
set_option maxRecDepth 100000
set_option maxHeartbeats 2000000
namespace Go.Proofs.YtancajcelmhnkaaGreatDoor
open Go.RowKit
set_option linter.unusedVariables false
set_option linter.unusedSimpArgs false
def idxI {α:Type} (xs:List α) (p:α→Bool):Int:=match xs.findIdx? p with | some i=>(i:Int) | none=>-1
theorem idxI_at {α:Type} {xs:List α} {p:α→Bool} {k:Nat} (hk:k<xs.length) (hno:∀ j (h:j<xs.length),j<k→p xs[j]=false) (hp:p xs[k]=true):idxI xs p=k:=by
 have:xs.findIdx? p=some k:=by
  rw [List.findIdx?_eq_some_iff_getElem]
  exact ⟨hk,hp,fun j hj=>by rw [hno j (by omega) hj];simp⟩
 unfold idxI;rw [this]
theorem idxI_none {α:Type} {xs:List α} {p:α→Bool} (hno:∀ j (h:j<xs.length),p xs[j]=false):idxI xs p = -1:=by
 have:xs.findIdx? p=none:=by
  rw [List.findIdx?_eq_none_iff]
  intro x hx
  obtain ⟨j,hj,rfl⟩:=List.getElem_of_mem hx
  exact hno j hj
 unfold idxI;rw [this]
theorem idxI_any {α:Type} (xs:List α) (p:α→Bool):decide (0≤idxI xs p)=xs.any p:=by
 unfold idxI
 cases h:xs.findIdx? p with
 | none =>
  rw [List.findIdx?_eq_none_iff] at h
  have:xs.any p=false:=List.any_eq_false.2 fun x hx=>by rw [h x hx];simp
  rw [this];rfl
 | some i =>
  obtain ⟨h1,h2,_⟩:=List.findIdx?_eq_some_iff_getElem.1 h
  have:xs.any p=true:=List.any_eq_true.2 ⟨_,List.getElem_mem h1,h2⟩
  rw [this]
  simp
def Answers {α:Type} (w:World) (g:Nat) (lb:Array Value) (enc:α→List Value) (xs:List α) (p:α→Bool):Prop :=
 ∀ W:World,Below w.heap.size w W→∀ x ∈ xs,Calls Tryz.prog g (#[.agg (enc x).toArray]++lb) W fun e w'=>e=.returned (.bool (p x))∧Below W.heap.size W w'
def Enters (g:Nat):Prop:=∀ args w,(callFunc g args).run Tryz.prog w=.ok (.enter g args) w
theorem cfszRc {L:List Value} (h:L.length=4):(Tryz.prog.info? 87).map (·.size)=some L.length:=by rw [h];kernel_rfl
theorem ifRc {α:Type} (enc:α→List Value) (g:Nat) (lb:Array Value) (eg:Enters g) (a:Option Addr) (n cap:Nat) (xs:List α) (p:α→Bool) (w:World) (hV:Vw w a (cellsOf enc xs)) (hn:xs.length=n) (hm:n≤9223372036854775807) (hk:∀ x ∈ xs,(enc x).length=4) (hc:Answers w g lb enc xs p) :
  Calls Tryz.prog 180 #[.slice a n cap,.func (.func g) #[] lb] w fun e w'=>e=.returned (.int .i64 (idxI xs p))∧Below w.heap.size w w':=by
 have HV:=hid hV;have HN:=hid hn;have HK:=hid hk;have HC:=hid hc
 clear hV hn hk hc
 unfold Enters at eg
 go_enter Tryz.func180,Tryz.ntmps180
 go_wp2
 go_loopw [8] (fun i wr=>∃ k:Nat,k≤n∧i=.int .i64 k∧(∀ j (h:j<xs.length),j<k→p xs[j]=false)∧Below w.heap.size w wr) (fun i _=>n - (intOf i).toNat)
 case atStart=>exact ⟨0,Nat.zero_le _,rfl,fun j _ h=>absurd h (Nat.not_lt_zero j),Below.refl _ _⟩
 case round =>
  obtain ⟨k,hkn,rfl,hno,hb⟩:=hrel
  have NO:=hid hno;have HB:=hid hb
  clear hno hb
  by_cases hlt:k<n
  ·have hke:k<xs.length:=by rw [HN.out];exact hlt
   obtain ⟨b,off,rfl,hbl,hr⟩:=HV.out.range HK.out (by omega) k hke
   have HR:=hid (rangeAt_below hr HB.out)
   have HCK:=hid (HC.out wr HB.out _ (List.getElem_mem hke))
   have HL:=hid (HK.out _ (List.getElem_mem hke))
   clear hr
   obtain ⟨b0,hb0⟩:∃ b0,p xs[k]=b0:=⟨_,rfl⟩
   have HB0:=hid hb0
   rw [hb0] at HCK
   clear hb0
   obtain ⟨L,hL⟩:∃ L,enc xs[k]=L:=⟨_,rfl⟩
   rw [hL] at HR HCK HL
   clear hL
   cases b0 with
   | true =>
    go_wp2_with (first
     | (refine wpList_load_mid rfl 87 (.tmp 14) rfl b (off+k * 4) rfl L _ HR.out Tryz.underlying87 rfl (cfszRc HL.out) ?_)
     | (go_at_fn g;refine HCK.out.mono ?_;rintro e w1 ⟨rfl,hb1⟩))
    go_ret
    exact ⟨by rw [idxI_at hke NO.out HB0.out];rfl,btr HB.out hb1⟩
   | false =>
    go_wp2_with (first
     | (refine wpList_load_mid rfl 87 (.tmp 14) rfl b (off+k * 4) rfl L _ HR.out Tryz.underlying87 rfl (cfszRc HL.out) ?_)
     | (go_at_fn g;refine HCK.out.mono ?_;rintro e w1 ⟨rfl,hb1⟩))
    go_roundw
    case rel =>
     refine ⟨k+1,by omega,by go_num,fun j hj hjk=>?_,btr HB.out hb1⟩
     by_cases e:j=k
     ·subst e;exact HB0.out
     ·exact NO.out j hj (by omega)
    case measure=>simp [intOf];omega
  ·go_wp2
   go_ret
   exact ⟨by rw [idxI_none fun j hj=>NO.out j hj (by have:=HN.out;omega)];rfl,HB.out⟩
theorem cfRc {α:Type} (enc:α→List Value) (g:Nat) (lb:Array Value) (eg:Enters g) (a:Option Addr) (n cap:Nat) (xs:List α) (p:α→Bool) (w:World) (hV:Vw w a (cellsOf enc xs)) (hn:xs.length=n) (hm:n≤9223372036854775807) (hk:∀ x ∈ xs,(enc x).length=4) (hc:Answers w g lb enc xs p) :
  Calls Tryz.prog 140 #[.slice a n cap,.func (.func g) #[] lb] w fun e w'=>e=.returned (.bool (xs.any p))∧Below w.heap.size w w':=by
 have H:=hid (ifRc enc g lb eg a n cap xs p w hV hn hm hk hc)
 have HA:=hid (idxI_any xs p)
 clear hV hn hk hc
 obtain ⟨z,hz⟩:∃ z,idxI xs p=z:=⟨_,rfl⟩
 rw [hz] at H HA
 clear hz
 go_enter Tryz.func140,Tryz.ntmps140
 go_wp2_with (go_at_call 180;refine H.out.mono ?_;rintro e w1 ⟨rfl,hb1⟩)
 go_ret
 exact ⟨ret_bool HA.out,hb1⟩
theorem cfszSp {L:List Value} (h:L.length=2):(Tryz.prog.info? 243).map (·.size)=some L.length:=by rw [h];kernel_rfl
theorem ifSp {α:Type} (enc:α→List Value) (g:Nat) (lb:Array Value) (eg:Enters g) (a:Option Addr) (n cap:Nat) (xs:List α) (p:α→Bool) (w:World) (hV:Vw w a (cellsOf enc xs)) (hn:xs.length=n) (hm:n≤9223372036854775807) (hk:∀ x ∈ xs,(enc x).length=2) (hc:Answers w g lb enc xs p) :
  Calls Tryz.prog 248 #[.slice a n cap,.func (.func g) #[] lb] w fun e w'=>e=.returned (.int .i64 (idxI xs p))∧Below w.heap.size w w':=by
 have HV:=hid hV;have HN:=hid hn;have HK:=hid hk;have HC:=hid hc
 clear hV hn hk hc
 unfold Enters at eg
 go_enter Tryz.func248,Tryz.ntmps248
 go_wp2
 go_loopw [8] (fun i wr=>∃ k:Nat,k≤n∧i=.int .i64 k∧(∀ j (h:j<xs.length),j<k→p xs[j]=false)∧Below w.heap.size w wr) (fun i _=>n - (intOf i).toNat)
 case atStart=>exact ⟨0,Nat.zero_le _,rfl,fun j _ h=>absurd h (Nat.not_lt_zero j),Below.refl _ _⟩
 case round =>
  obtain ⟨k,hkn,rfl,hno,hb⟩:=hrel
  have NO:=hid hno;have HB:=hid hb
  clear hno hb
  by_cases hlt:k<n
  ·have hke:k<xs.length:=by rw [HN.out];exact hlt
   obtain ⟨b,off,rfl,hbl,hr⟩:=HV.out.range HK.out (by omega) k hke
   have HR:=hid (rangeAt_below hr HB.out)
   have HCK:=hid (HC.out wr HB.out _ (List.getElem_mem hke))
   have HL:=hid (HK.out _ (List.getElem_mem hke))
   clear hr
   obtain ⟨b0,hb0⟩:∃ b0,p xs[k]=b0:=⟨_,rfl⟩
   have HB0:=hid hb0
   rw [hb0] at HCK
   clear hb0
   obtain ⟨L,hL⟩:∃ L,enc xs[k]=L:=⟨_,rfl⟩
   rw [hL] at HR HCK HL
   clear hL
   cases b0 with
   | true =>
    go_wp2_with (first
     | (refine wpList_load_mid rfl 243 (.tmp 14) rfl b (off+k * 2) rfl L _ HR.out Tryz.underlying243 rfl (cfszSp HL.out) ?_)
     | (go_at_fn g;refine HCK.out.mono ?_;rintro e w1 ⟨rfl,hb1⟩))
    go_ret
    exact ⟨by rw [idxI_at hke NO.out HB0.out];rfl,btr HB.out hb1⟩
   | false =>
    go_wp2_with (first
     | (refine wpList_load_mid rfl 243 (.tmp 14) rfl b (off+k * 2) rfl L _ HR.out Tryz.underlying243 rfl (cfszSp HL.out) ?_)
     | (go_at_fn g;refine HCK.out.mono ?_;rintro e w1 ⟨rfl,hb1⟩))
    go_roundw
    case rel =>
     refine ⟨k+1,by omega,by go_num,fun j hj hjk=>?_,btr HB.out hb1⟩
     by_cases e:j=k
     ·subst e;exact HB0.out
     ·exact NO.out j hj (by omega)
    case measure=>simp [intOf];omega
  ·go_wp2
   go_ret
   exact ⟨by rw [idxI_none fun j hj=>NO.out j hj (by have:=HN.out;omega)];rfl,HB.out⟩
theorem cfSp {α:Type} (enc:α→List Value) (g:Nat) (lb:Array Value) (eg:Enters g) (a:Option Addr) (n cap:Nat) (xs:List α) (p:α→Bool) (w:World) (hV:Vw w a (cellsOf enc xs)) (hn:xs.length=n) (hm:n≤9223372036854775807) (hk:∀ x ∈ xs,(enc x).length=2) (hc:Answers w g lb enc xs p) :
  Calls Tryz.prog 217 #[.slice a n cap,.func (.func g) #[] lb] w fun e w'=>e=.returned (.bool (xs.any p))∧Below w.heap.size w w':=by
 have H:=hid (ifSp enc g lb eg a n cap xs p w hV hn hm hk hc)
 have HA:=hid (idxI_any xs p)
 clear hV hn hk hc
 obtain ⟨z,hz⟩:∃ z,idxI xs p=z:=⟨_,rfl⟩
 rw [hz] at H HA
 clear hz
 go_enter Tryz.func217,Tryz.ntmps217
 go_wp2_with (go_at_call 248;refine H.out.mono ?_;rintro e w1 ⟨rfl,hb1⟩)
 go_ret
 exact ⟨ret_bool HA.out,hb1⟩
theorem cfszRd {L:List Value} (h:L.length=3):(Tryz.prog.info? 47).map (·.size)=some L.length:=by rw [h];kernel_rfl
theorem ifRd {α:Type} (enc:α→List Value) (g:Nat) (lb:Array Value) (eg:Enters g) (a:Option Addr) (n cap:Nat) (xs:List α) (p:α→Bool) (w:World) (hV:Vw w a (cellsOf enc xs)) (hn:xs.length=n) (hm:n≤9223372036854775807) (hk:∀ x ∈ xs,(enc x).length=3) (hc:Answers w g lb enc xs p) :
  Calls Tryz.prog 129 #[.slice a n cap,.func (.func g) #[] lb] w fun e w'=>e=.returned (.int .i64 (idxI xs p))∧Below w.heap.size w w':=by
 have HV:=hid hV;have HN:=hid hn;have HK:=hid hk;have HC:=hid hc
 clear hV hn hk hc
 unfold Enters at eg
 go_enter Tryz.func129,Tryz.ntmps129
 go_wp2
 go_loopw [8] (fun i wr=>∃ k:Nat,k≤n∧i=.int .i64 k∧(∀ j (h:j<xs.length),j<k→p xs[j]=false)∧Below w.heap.size w wr) (fun i _=>n - (intOf i).toNat)
 case atStart=>exact ⟨0,Nat.zero_le _,rfl,fun j _ h=>absurd h (Nat.not_lt_zero j),Below.refl _ _⟩
 case round =>
  obtain ⟨k,hkn,rfl,hno,hb⟩:=hrel
  have NO:=hid hno;have HB:=hid hb
  clear hno hb
  by_cases hlt:k<n
  ·have hke:k<xs.length:=by rw [HN.out];exact hlt
   obtain ⟨b,off,rfl,hbl,hr⟩:=HV.out.range HK.out (by omega) k hke
   have HR:=hid (rangeAt_below hr HB.out)
   have HCK:=hid (HC.out wr HB.out _ (List.getElem_mem hke))
   have HL:=hid (HK.out _ (List.getElem_mem hke))
   clear hr
   obtain ⟨b0,hb0⟩:∃ b0,p xs[k]=b0:=⟨_,rfl⟩
   have HB0:=hid hb0
   rw [hb0] at HCK
   clear hb0
   obtain ⟨L,hL⟩:∃ L,enc xs[k]=L:=⟨_,rfl⟩
   rw [hL] at HR HCK HL
   clear hL
   cases b0 with
   | true =>
    go_wp2_with (first
     | (refine wpList_load_mid rfl 47 (.tmp 14) rfl b (off+k * 3) rfl L _ HR.out Tryz.underlying47 rfl (cfszRd HL.out) ?_)
     | (go_at_fn g;refine HCK.out.mono ?_;rintro e w1 ⟨rfl,hb1⟩))
    go_ret
    exact ⟨by rw [idxI_at hke NO.out HB0.out];rfl,btr HB.out hb1⟩
   | false =>
    go_wp2_with (first
     | (refine wpList_load_mid rfl 47 (.tmp 14) rfl b (off+k * 3) rfl L _ HR.out Tryz.underlying47 rfl (cfszRd HL.out) ?_)
     | (go_at_fn g;refine HCK.out.mono ?_;rintro e w1 ⟨rfl,hb1⟩))
    go_roundw
    case rel =>
     refine ⟨k+1,by omega,by go_num,fun j hj hjk=>?_,btr HB.out hb1⟩
     by_cases e:j=k
     ·subst e;exact HB0.out
     ·exact NO.out j hj (by omega)
    case measure=>simp [intOf];omega
  ·go_wp2
   go_ret
   exact ⟨by rw [idxI_none fun j hj=>NO.out j hj (by have:=HN.out;omega)];rfl,HB.out⟩
theorem cfRd {α:Type} (enc:α→List Value) (g:Nat) (lb:Array Value) (eg:Enters g) (a:Option Addr) (n cap:Nat) (xs:List α) (p:α→Bool) (w:World) (hV:Vw w a (cellsOf enc xs)) (hn:xs.length=n) (hm:n≤9223372036854775807) (hk:∀ x ∈ xs,(enc x).length=3) (hc:Answers w g lb enc xs p) :
  Calls Tryz.prog 92 #[.slice a n cap,.func (.func g) #[] lb] w fun e w'=>e=.returned (.bool (xs.any p))∧Below w.heap.size w w':=by
 have H:=hid (ifRd enc g lb eg a n cap xs p w hV hn hm hk hc)
 have HA:=hid (idxI_any xs p)
 clear hV hn hk hc
 obtain ⟨z,hz⟩:∃ z,idxI xs p=z:=⟨_,rfl⟩
 rw [hz] at H HA
 clear hz
 go_enter Tryz.func92,Tryz.ntmps92
 go_wp2_with (go_at_call 129;refine H.out.mono ?_;rintro e w1 ⟨rfl,hb1⟩)
 go_ret
 exact ⟨ret_bool HA.out,hb1⟩
theorem cfszTm {L:List Value} (h:L.length=4):(Tryz.prog.info? 24).map (·.size)=some L.length:=by rw [h];kernel_rfl
theorem ifTm {α:Type} (enc:α→List Value) (g:Nat) (lb:Array Value) (eg:Enters g) (a:Option Addr) (n cap:Nat) (xs:List α) (p:α→Bool) (w:World) (hV:Vw w a (cellsOf enc xs)) (hn:xs.length=n) (hm:n≤9223372036854775807) (hk:∀ x ∈ xs,(enc x).length=4) (hc:Answers w g lb enc xs p) :
  Calls Tryz.prog 168 #[.slice a n cap,.func (.func g) #[] lb] w fun e w'=>e=.returned (.int .i64 (idxI xs p))∧Below w.heap.size w w':=by
 have HV:=hid hV;have HN:=hid hn;have HK:=hid hk;have HC:=hid hc
 clear hV hn hk hc
 unfold Enters at eg
 go_enter Tryz.func168,Tryz.ntmps168
 go_wp2
 go_loopw [8] (fun i wr=>∃ k:Nat,k≤n∧i=.int .i64 k∧(∀ j (h:j<xs.length),j<k→p xs[j]=false)∧Below w.heap.size w wr) (fun i _=>n - (intOf i).toNat)
 case atStart=>exact ⟨0,Nat.zero_le _,rfl,fun j _ h=>absurd h (Nat.not_lt_zero j),Below.refl _ _⟩
 case round =>
  obtain ⟨k,hkn,rfl,hno,hb⟩:=hrel
  have NO:=hid hno;have HB:=hid hb
  clear hno hb
  by_cases hlt:k<n
  ·have hke:k<xs.length:=by rw [HN.out];exact hlt
   obtain ⟨b,off,rfl,hbl,hr⟩:=HV.out.range HK.out (by omega) k hke
   have HR:=hid (rangeAt_below hr HB.out)
   have HCK:=hid (HC.out wr HB.out _ (List.getElem_mem hke))
   have HL:=hid (HK.out _ (List.getElem_mem hke))
   clear hr
   obtain ⟨b0,hb0⟩:∃ b0,p xs[k]=b0:=⟨_,rfl⟩
   have HB0:=hid hb0
   rw [hb0] at HCK
   clear hb0
   obtain ⟨L,hL⟩:∃ L,enc xs[k]=L:=⟨_,rfl⟩
   rw [hL] at HR HCK HL
   clear hL
   cases b0 with
   | true =>
    go_wp2_with (first
     | (refine wpList_load_mid rfl 24 (.tmp 14) rfl b (off+k * 4) rfl L _ HR.out Tryz.underlying24 rfl (cfszTm HL.out) ?_)
     | (go_at_fn g;refine HCK.out.mono ?_;rintro e w1 ⟨rfl,hb1⟩))
    go_ret
    exact ⟨by rw [idxI_at hke NO.out HB0.out];rfl,btr HB.out hb1⟩
   | false =>
    go_wp2_with (first
     | (refine wpList_load_mid rfl 24 (.tmp 14) rfl b (off+k * 4) rfl L _ HR.out Tryz.underlying24 rfl (cfszTm HL.out) ?_)
     | (go_at_fn g;refine HCK.out.mono ?_;rintro e w1 ⟨rfl,hb1⟩))
    go_roundw
    case rel =>
     refine ⟨k+1,by omega,by go_num,fun j hj hjk=>?_,btr HB.out hb1⟩
     by_cases e:j=k
     ·subst e;exact HB0.out
     ·exact NO.out j hj (by omega)
    case measure=>simp [intOf];omega
  ·go_wp2
   go_ret
   exact ⟨by rw [idxI_none fun j hj=>NO.out j hj (by have:=HN.out;omega)];rfl,HB.out⟩
theorem cfTm {α:Type} (enc:α→List Value) (g:Nat) (lb:Array Value) (eg:Enters g) (a:Option Addr) (n cap:Nat) (xs:List α) (p:α→Bool) (w:World) (hV:Vw w a (cellsOf enc xs)) (hn:xs.length=n) (hm:n≤9223372036854775807) (hk:∀ x ∈ xs,(enc x).length=4) (hc:Answers w g lb enc xs p) :
  Calls Tryz.prog 121 #[.slice a n cap,.func (.func g) #[] lb] w fun e w'=>e=.returned (.bool (xs.any p))∧Below w.heap.size w w':=by
 have H:=hid (ifTm enc g lb eg a n cap xs p w hV hn hm hk hc)
 have HA:=hid (idxI_any xs p)
 clear hV hn hk hc
 obtain ⟨z,hz⟩:∃ z,idxI xs p=z:=⟨_,rfl⟩
 rw [hz] at H HA
 clear hz
 go_enter Tryz.func121,Tryz.ntmps121
 go_wp2_with (go_at_call 168;refine H.out.mono ?_;rintro e w1 ⟨rfl,hb1⟩)
 go_ret
 exact ⟨ret_bool HA.out,hb1⟩
theorem cfszFt {L:List Value} (h:L.length=5):(Tryz.prog.info? 49).map (·.size)=some L.length:=by rw [h];kernel_rfl
theorem ifFt {α:Type} (enc:α→List Value) (g:Nat) (lb:Array Value) (eg:Enters g) (a:Option Addr) (n cap:Nat) (xs:List α) (p:α→Bool) (w:World) (hV:Vw w a (cellsOf enc xs)) (hn:xs.length=n) (hm:n≤9223372036854775807) (hk:∀ x ∈ xs,(enc x).length=5) (hc:Answers w g lb enc xs p) :
  Calls Tryz.prog 178 #[.slice a n cap,.func (.func g) #[] lb] w fun e w'=>e=.returned (.int .i64 (idxI xs p))∧Below w.heap.size w w':=by
 have HV:=hid hV;have HN:=hid hn;have HK:=hid hk;have HC:=hid hc
 clear hV hn hk hc
 unfold Enters at eg
 go_enter Tryz.func178,Tryz.ntmps178
 go_wp2
 go_loopw [8] (fun i wr=>∃ k:Nat,k≤n∧i=.int .i64 k∧(∀ j (h:j<xs.length),j<k→p xs[j]=false)∧Below w.heap.size w wr) (fun i _=>n - (intOf i).toNat)
 case atStart=>exact ⟨0,Nat.zero_le _,rfl,fun j _ h=>absurd h (Nat.not_lt_zero j),Below.refl _ _⟩
 case round =>
  obtain ⟨k,hkn,rfl,hno,hb⟩:=hrel
  have NO:=hid hno;have HB:=hid hb
  clear hno hb
  by_cases hlt:k<n
  ·have hke:k<xs.length:=by rw [HN.out];exact hlt
   obtain ⟨b,off,rfl,hbl,hr⟩:=HV.out.range HK.out (by omega) k hke
   have HR:=hid (rangeAt_below hr HB.out)
   have HCK:=hid (HC.out wr HB.out _ (List.getElem_mem hke))
   have HL:=hid (HK.out _ (List.getElem_mem hke))
   clear hr
   obtain ⟨b0,hb0⟩:∃ b0,p xs[k]=b0:=⟨_,rfl⟩
   have HB0:=hid hb0
   rw [hb0] at HCK
   clear hb0
   obtain ⟨L,hL⟩:∃ L,enc xs[k]=L:=⟨_,rfl⟩
   rw [hL] at HR HCK HL
   clear hL
   cases b0 with
   | true =>
    go_wp2_with (first
     | (refine wpList_load_mid rfl 49 (.tmp 14) rfl b (off+k * 5) rfl L _ HR.out Tryz.underlying49 rfl (cfszFt HL.out) ?_)
     | (go_at_fn g;refine HCK.out.mono ?_;rintro e w1 ⟨rfl,hb1⟩))
    go_ret
    exact ⟨by rw [idxI_at hke NO.out HB0.out];rfl,btr HB.out hb1⟩
   | false =>
    go_wp2_with (first
     | (refine wpList_load_mid rfl 49 (.tmp 14) rfl b (off+k * 5) rfl L _ HR.out Tryz.underlying49 rfl (cfszFt HL.out) ?_)
     | (go_at_fn g;refine HCK.out.mono ?_;rintro e w1 ⟨rfl,hb1⟩))
    go_roundw
    case rel =>
     refine ⟨k+1,by omega,by go_num,fun j hj hjk=>?_,btr HB.out hb1⟩
     by_cases e:j=k
     ·subst e;exact HB0.out
     ·exact NO.out j hj (by omega)
    case measure=>simp [intOf];omega
  ·go_wp2
   go_ret
   exact ⟨by rw [idxI_none fun j hj=>NO.out j hj (by have:=HN.out;omega)];rfl,HB.out⟩
end Go.Proofs.YtancajcelmhnkaaGreatDoor
