/- ref02.Decimal at any integer. -/
import Derived.Test.YtancajcelmhnkaaGreatDoorIa
import Derived.Lib.AppendIntMem
set_option maxRecDepth 100000
set_option maxHeartbeats 4000000
namespace Go.Proofs.YtancajcelmhnkaaGreatDoor
open Go.RowKit Go.Sort Go.Shelf
set_option linter.unusedVariables false
set_option linter.unusedSimpArgs false
theorem itoa_small {n:Int} (h0:0≤n) (h1:n<10):Lib.itoa n=[UInt8.ofNat (48+n.toNat)]:=by
 unfold Lib.itoa
 rw [if_neg (by omega),Lib.decDigits,dif_pos (by omega)]
theorem itoa_big {n:Int} (h:10≤n):Lib.itoa n=Lib.itoa (n.tdiv 10)++[UInt8.ofNat (48+(n.tmod 10).toNat)]:=by
 have h1:n.tdiv 10=((n.toNat / 10:Nat):Int):=by
  obtain ⟨k,rfl⟩:=Int.eq_ofNat_of_zero_le (show 0≤n by omega)
  rfl
 have h2:n.tmod 10=((n.toNat % 10:Nat):Int):=by
  obtain ⟨k,rfl⟩:=Int.eq_ofNat_of_zero_le (show 0≤n by omega)
  rfl
 rw [h1,h2]
 unfold Lib.itoa
 rw [if_neg (by omega),if_neg (by omega),Lib.decDigits,dif_neg (by omega),Int.toNat_natCast,Int.toNat_natCast]
theorem itoa_neg_small {n:Int} (h0:n<0) (h1:-10<n):Lib.itoa n=[45,UInt8.ofNat (48+(-(n.tmod 10)).toNat)]:=by
 obtain ⟨k,rfl⟩:∃ k:Nat,n = -(k:Int):=⟨n.natAbs,by omega⟩
 have:(-(k:Int)).tmod 10 = -((k % 10:Nat):Int):=by rw [Int.neg_tmod];rfl
 rw [this]
 unfold Lib.itoa
 rw [if_pos (by omega),Lib.decDigits,dif_pos (by omega)]
 have e:(-(k:Int)).natAbs=k:=by omega
 have e2:(- -((k % 10:Nat):Int)).toNat=k:=by omega
 rw [e,e2]
theorem itoa_neg_big {n:Int} (h:n≤-10):Lib.itoa n=Lib.itoa (n.tdiv 10)++[UInt8.ofNat (48+(-(n.tmod 10)).toNat)]:=by
 obtain ⟨k,rfl⟩:∃ k:Nat,n = -(k:Int):=⟨n.natAbs,by omega⟩
 have h1:(-(k:Int)).tdiv 10 = -((k / 10:Nat):Int):=by rw [Int.neg_tdiv];rfl
 have h2:(-(k:Int)).tmod 10 = -((k % 10:Nat):Int):=by rw [Int.neg_tmod];rfl
 rw [h1,h2]
 unfold Lib.itoa
 rw [if_pos (by omega),if_pos (by omega),Lib.decDigits,dif_neg (by omega)]
 have e:(-(k:Int)).natAbs=k:=by omega
 have e2:(- -((k % 10:Nat):Int)).toNat=k % 10:=by omega
 have e3:(-((k / 10:Nat):Int)).natAbs=k / 10:=by omega
 rw [e,e2,e3]
 simp
theorem itoa_len {n:Int} (h0:-9223372036854775808≤n) (h1:n≤9223372036854775807):(Lib.itoa n).length≤30:=by
 unfold Lib.itoa
 split
 ·rw [List.length_cons,Lib.decDigits_length]
  have:=nDigits_le 20 n.natAbs (by simp only [Nat.reduceAdd,Nat.reducePow];omega)
  omega
 ·rw [Lib.decDigits_length]
  have:=nDigits_le 20 n.toNat (by simp only [Nat.reduceAdd,Nat.reducePow];omega)
  omega
theorem tdm (n:Int):10 * n.tdiv 10+n.tmod 10=n∧(n<0→-10<n.tmod 10∧n.tmod 10≤0)∧(0≤n→0≤n.tmod 10∧n.tmod 10<10):=by
 refine ⟨Int.mul_tdiv_add_tmod n 10,fun h=>?_,fun h=>?_⟩
 ·obtain ⟨k,rfl⟩:∃ k:Nat,n = -(k:Int):=⟨n.natAbs,by omega⟩
  have:(-(k:Int)).tmod 10 = -((k % 10:Nat):Int):=by rw [Int.neg_tmod];rfl
  omega
 ·obtain ⟨k,rfl⟩:=Int.eq_ofNat_of_zero_le h
  have:((k:Int)).tmod 10=((k % 10:Nat):Int):=rfl
  omega
theorem takeA {P:Program} {md:Region.Mode} {ops:Array Oper} {Q:Exit→Act→World→Prop} {S:World→Prop} (i:Nat) {oi:Oper} {v:Value} {fuel:Nat} {listed:Array Bool} {a:Act} {w:World} (hi:ops.toList[i]? = some oi) (hs:Region.noSelect ops=true) (hf:Region.free md ops listed i=true) (hr:(Region.ready md ops listed).contains i=true)
  (hQ:∀ c a w,Q (.panic c) (a.put oi.dst v) w→Q (.panic c) a w) (hy:YieldsIf P ops S oi v a) (hS:S w) (h:wpAnyH P md ops Q S fuel (listed.setIfInBounds i true) (a.put oi.dst v) w):wpAnyH P md ops Q S (fuel+1) listed a w :=
 wpAnyH_take (by rw [← Array.getElem?_toList];exact hi) hs hf hr hQ hy hS h
theorem consA {P:Program} {md:Region.Mode} {ops:Array Oper} {Q:Exit→Act→World→Prop} {S:World→Prop} {fuel:Nat} {listed:Array Bool} {a:Act} {w:World} {i:Nat} {o:Oper} {rs:List Nat} (ho:ops.toList[i]? = some o)
  (h:∀ K':Act→World→Prop,Shut (∀ a w,S w→(S w→wpAnyH P md ops Q S fuel (listed.setIfInBounds i true) a w)→K' a w)→if Region.wanted o (yielded ops a.tmps)=true then Oper.wp P o a w K' Q else K' (a.put o.dst undef) w)
  (hs:AllReadyH P md ops Q S fuel listed a w rs):AllReadyH P md ops Q S fuel listed a w (i :: rs):=AllReadyH.cons (by rw [← Array.getElem?_toList];exact ho) h hs
theorem conv_at {x:Int} {c:UInt8} (hx:x=(c.toNat:Int)):∀ (W:World) (g:Nat),g=W.heap.size→(convert 135 9 (.slice (some ⟨g,0,none⟩) 1 1)).run Tryz.prog (W.alloc (.cells #[.int .u8 x] 5))=.ok (.string ⟨#[c]⟩) (W.alloc (.cells #[.int .u8 x] 5)):=by
 rintro W g rfl
 refine run_convert_bytes_back (W.alloc (.cells #[.int .u8 x] 5)) _ _ 5 ⟨W.heap.size,0,none⟩ 1 [c] Tryz.underlying135 Tryz.underlying5 Tryz.underlying9 fun j hj=>?_
 obtain rfl:j=0:=by simpa using hj
 subst hx
 exact (Blk.new W _ _).cell 0
theorem conv_blk {x:Int} {c:UInt8} {W:World} {g:Nat} (hx:x=(c.toNat:Int)) (hB:Blk W g 5 #[.int .u8 x]):(convert 135 9 (.slice (some ⟨g,0,none⟩) 1 1)).run Tryz.prog W=.ok (.string ⟨#[c]⟩) W:=by
 refine run_convert_bytes_back W _ _ 5 ⟨g,0,none⟩ 1 [c] Tryz.underlying135 Tryz.underlying5 Tryz.underlying9 fun j hj=>?_
 obtain rfl:j=0:=by simpa using hj
 subst hx
 exact hB.cell 0
theorem dig_byte {k:Int} (h0:0≤k) (h1:k<10):(48+k:Int)=((UInt8.ofNat (48+k.toNat)).toNat:Int):=by
 obtain ⟨d,rfl⟩:=Int.eq_ofNat_of_zero_le h0
 have:∀ d:Fin 10,(UInt8.ofNat (48+d.val)).toNat=48+d.val:=by decide
 have:=this ⟨d,by omega⟩
 simp only [Int.toNat_natCast] at *
 omega
theorem str_app {l:List UInt8} {c:UInt8}:(⟨l.toArray⟩:ByteArray)++(⟨#[c]⟩:ByteArray)=⟨(l++[c]).toArray⟩:=by
 apply ByteArray.ext
 simp
theorem rdec_any (m:Nat):∀ (n:Int),n.natAbs<10 ^ (m+1)→-9223372036854775808≤n→n≤9223372036854775807→∀ w:World,
  Calls Tryz.prog 117 #[.int .i64 n] w fun e w'=>e=.returned (.string ⟨(Lib.itoa n).toArray⟩)∧Below w.heap.size w w':=by
 have small:∀ (n:Int),0≤n→n<10→∀ w:World,Calls Tryz.prog 117 #[.int .i64 n] w fun e w'=>e=.returned (.string ⟨(Lib.itoa n).toArray⟩)∧Below w.heap.size w w':=by
  intro n h0 hs w
  have hn:¬ n<0:=by omega
  rw [itoa_small (by omega) hs]
  have CV:=conv_at (dig_byte (k:=n) (by omega) hs)
  obtain ⟨c,hc⟩:∃ c,UInt8.ofNat (48+n.toNat)=c:=⟨_,rfl⟩
  rw [hc] at CV ⊢
  clear hc
  go_enter Tryz.func117,Tryz.ntmps117
  go_wp2
  go_ret
  exact ⟨rfl,Bw.out⟩
 have nsmall:∀ (n:Int),n<0→-10<n→∀ w:World,Calls Tryz.prog 117 #[.int .i64 n] w fun e w'=>e=.returned (.string ⟨(Lib.itoa n).toArray⟩)∧Below w.heap.size w w':=by
  intro n h0 hs w
  obtain ⟨k,hk⟩:∃ k,n.tmod 10=k:=⟨_,rfl⟩
  have k1:-10<k∧k≤0:=by have:=(tdm n).2.1 h0;omega
  rw [itoa_neg_small (by omega) hs]
  rw [hk]
  have CV:=conv_at (dig_byte (k:=-k) (by omega) (by omega))
  obtain ⟨c,hc⟩:∃ c,UInt8.ofNat (48+(-k).toNat)=c:=⟨_,rfl⟩
  rw [hc] at CV ⊢
  clear hc
  obtain ⟨d,hd⟩:∃ d,-k=d:=⟨_,rfl⟩
  rw [hd] at CV
  have d1:0≤d∧d<10:=by omega
  obtain ⟨d2,d3⟩:=d1
  go_enter Tryz.func117,Tryz.ntmps117
  go_wp2
  go_ret
  exact ⟨rfl,Bw.out⟩
 induction m with
 | zero =>
  intro n h0 h1 h2 w
  by_cases hn:n<0
  ·exact nsmall n hn (by simp at h0;omega) w
  ·exact small n (by omega) (by simp at h0;omega) w
 | succ m ih =>
  intro n h0 h1 h2 w
  have htd:=tdm n
  have hq:(n.tdiv 10).natAbs<10 ^ (m+1):=by
   rw [Nat.pow_succ] at h0
   generalize 10 ^ (m+1)=X at h0 ⊢
   omega
  by_cases hn:n<0
  ·by_cases hs:-10<n
   ·exact nsmall n hn hs w
   ·have IH:=hid (ih (n.tdiv 10) hq (by omega) (by omega))
    have hl:=itoa_len (n:=n.tdiv 10) (by omega) (by omega)
    obtain ⟨k,hk⟩:∃ k,n.tmod 10=k:=⟨_,rfl⟩
    obtain ⟨q,hqq⟩:∃ q,n.tdiv 10=q:=⟨_,rfl⟩
    have k1:-10<k∧k≤0:=by omega
    rw [itoa_neg_big (by omega),hk,hqq,← str_app]
    rw [hqq] at IH hl
    have CB:=dig_byte (k:=-k) (by omega) (by omega)
    obtain ⟨c,hc⟩:∃ c,UInt8.ofNat (48+(-k).toNat)=c:=⟨_,rfl⟩
    rw [hc] at CB ⊢
    obtain ⟨t,ht⟩:∃ t:ByteArray,⟨(Lib.itoa q).toArray⟩=t:=⟨_,rfl⟩
    have htl:t.size+1≤65536:=by rw [← ht];show (Lib.itoa q).toArray.size+1≤_;simp;omega
    have htl2:¬ 9223372036854775807<t.size+1:=by omega
    rw [ht] at IH ⊢
    clear hc ih small nsmall ht hl
    obtain ⟨d,hd⟩:∃ d,-k=d:=⟨_,rfl⟩
    rw [hd] at CB
    obtain ⟨x,hx⟩:∃ x:Int,48+d=x:=⟨_,rfl⟩
    rw [hx] at CB
    have CV:=conv_at CB
    have CV3:=conv_blk CB (Blk.drew (Blk.new w 5 #[.int .u8 x]))
    have CK:=hid fun W g=>conv_blk (W:=W) (g:=g) CB
    have q1:wrap64 (-k)=d:=by rw [hd];exact IntWalk.wrap64_in _ (by omega)
    have q2:IntKind.i64.wrap q=q:=IntWalk.i64_in _ (by omega)
    have q3:IntKind.i64.wrap (48+d)=x:=by rw [hx];exact IntWalk.i64_in _ (by omega)
    have q4:IntKind.u8.wrap x=x:=by rw [IntKind.wrap_u8'];omega
    clear CB hd htd h0 h1 h2 hq k1 hx
    go_enter Tryz.func117,Tryz.ntmps117
    go_upto_region 5 with fail
    refine wp_region_held_drew (S:=fun _=>True) (by kernel_rfl) trivial (fun hHeld=>?_)
    refine takeA 0 (v:=?_) rfl (by kernel_rfl) (by kernel_rfl) (by kernel_rfl) (fun _ _ _ h=>h) (Or.inl ⟨by rfl,?_⟩) (by assumption) ?_;rotate_left;focus ((intro w hSw;(try dsimp only at hSw);go_simp) <;> with_reducible rfl);(try simp only [Act.put,List.setIfInBounds_toArray,List.set_cons_zero,List.set_cons_succ])
    refine takeA 1 (v:=?_) rfl (by kernel_rfl) (by kernel_rfl) (by kernel_rfl) (fun _ _ _ h=>h) (Or.inl ⟨by rfl,?_⟩) (by assumption) ?_;rotate_left;focus ((intro w hSw;(try dsimp only at hSw);go_simp) <;> with_reducible rfl);(try simp only [Act.put,List.setIfInBounds_toArray,List.set_cons_zero,List.set_cons_succ])
    refine takeA 3 (v:=?_) rfl (by kernel_rfl) (by kernel_rfl) (by kernel_rfl) (fun _ _ _ h=>h) (Or.inl ⟨by rfl,?_⟩) (by assumption) ?_;rotate_left;focus ((intro w hSw;(try dsimp only at hSw);go_simp) <;> with_reducible rfl);(try simp only [Act.put,List.setIfInBounds_toArray,List.set_cons_zero,List.set_cons_succ])
    refine takeA 4 (v:=?_) rfl (by kernel_rfl) (by kernel_rfl) (by kernel_rfl) (fun _ _ _ h=>h) (Or.inl ⟨by rfl,?_⟩) (by assumption) ?_;rotate_left;focus ((intro w hSw;(try dsimp only at hSw);go_simp) <;> with_reducible rfl);(try simp only [Act.put,List.setIfInBounds_toArray,List.set_cons_zero,List.set_cons_succ])
    refine takeA 5 (v:=?_) rfl (by kernel_rfl) (by kernel_rfl) (by kernel_rfl) (fun _ _ _ h=>h) (Or.inl ⟨by rfl,?_⟩) (by assumption) ?_;rotate_left;focus ((intro w hSw;(try dsimp only at hSw);go_simp) <;> with_reducible rfl);(try simp only [Act.put,List.setIfInBounds_toArray,List.set_cons_zero,List.set_cons_succ])
    refine wpAnyH_ready (rs:=[2,6]) (by kernel_rfl) (by simp) ?_;refine consA rfl (fun K hK=>?_) (consA rfl (fun K hK=>?_) AllReadyH.nil)
    focus (go_simp;go_at_call 117;(with_reducible refine (IH.out _).mono ?_);rintro e w1 ⟨rfl,hb⟩;have HB:RowKit.Hid (Below w.heap.size w w1):=btr Bw.out hb;(first | (have CV2:=CK.out w1 w.heap.size ((Blk.new w.drew 5 #[.int .u8 x]).below hb)) | skip);clear hb;(try go_wp2_with fail);refine hK.out _ _ trivial (fun hHeld=>?_);clear hK K;(try simp only [Act.put,List.setIfInBounds_toArray,List.set_cons_zero,List.set_cons_succ]))
    focus (refine wpAnyH_ready (rs:=[6]) (by kernel_rfl) (by simp) ?_;refine consA rfl (fun K hK=>?_) AllReadyH.nil;go_simp;refine hK.out _ _ trivial (fun hHeld=>?_);clear hK K;(try simp only [Act.put,List.setIfInBounds_toArray,List.set_cons_zero,List.set_cons_succ]))
    focus (refine wpAnyH_ready (rs:=[7]) (by kernel_rfl) (by simp) ?_;refine consA rfl (fun K hK=>?_) AllReadyH.nil;go_simp;refine hK.out _ _ trivial (fun hHeld=>?_);clear hK K;(try simp only [Act.put,List.setIfInBounds_toArray,List.set_cons_zero,List.set_cons_succ]))
    focus (refine wpAnyH_ready (rs:=[8]) (by kernel_rfl) (by simp) ?_;refine consA rfl (fun K hK=>?_) AllReadyH.nil;go_simp;refine hK.out _ _ trivial (fun hHeld=>?_);clear hK K;(try simp only [Act.put,List.setIfInBounds_toArray,List.set_cons_zero,List.set_cons_succ]))
    focus (refine wpAnyH_ready (rs:=[9]) (by kernel_rfl) (by simp) ?_;refine consA rfl (fun K hK=>?_) AllReadyH.nil;go_simp;refine hK.out _ _ trivial (fun hHeld=>?_);clear hK K;(try simp only [Act.put,List.setIfInBounds_toArray,List.set_cons_zero,List.set_cons_succ]))
    focus (refine wpAnyH_done (by kernel_rfl) ?_ _)
    rotate_left
    focus (go_simp;refine hK.out _ _ trivial (fun hHeld=>?_);clear hK K;(try simp only [Act.put,List.setIfInBounds_toArray,List.set_cons_zero,List.set_cons_succ]))
    focus (refine wpAnyH_ready (rs:=[2,7]) (by kernel_rfl) (by simp) ?_;refine consA rfl (fun K hK=>?_) (consA rfl (fun K hK=>?_) AllReadyH.nil))
    focus (go_simp;go_at_call 117;(with_reducible refine (IH.out _).mono ?_);rintro e w1 ⟨rfl,hb⟩;have HB:RowKit.Hid (Below w.heap.size w w1):=btr Bw.out hb;(first | (have CV2:=CK.out w1 w.heap.size ((Blk.new w.drew 5 #[.int .u8 x]).below hb)) | skip);clear hb;(try go_wp2_with fail);refine hK.out _ _ trivial (fun hHeld=>?_);clear hK K;(try simp only [Act.put,List.setIfInBounds_toArray,List.set_cons_zero,List.set_cons_succ]))
    focus (refine wpAnyH_ready (rs:=[7]) (by kernel_rfl) (by simp) ?_;refine consA rfl (fun K hK=>?_) AllReadyH.nil;go_simp;refine hK.out _ _ trivial (fun hHeld=>?_);clear hK K;(try simp only [Act.put,List.setIfInBounds_toArray,List.set_cons_zero,List.set_cons_succ]))
    focus (refine wpAnyH_ready (rs:=[8]) (by kernel_rfl) (by simp) ?_;refine consA rfl (fun K hK=>?_) AllReadyH.nil;go_simp;refine hK.out _ _ trivial (fun hHeld=>?_);clear hK K;(try simp only [Act.put,List.setIfInBounds_toArray,List.set_cons_zero,List.set_cons_succ]))
    focus (refine wpAnyH_ready (rs:=[9]) (by kernel_rfl) (by simp) ?_;refine consA rfl (fun K hK=>?_) AllReadyH.nil;go_simp;refine hK.out _ _ trivial (fun hHeld=>?_);clear hK K;(try simp only [Act.put,List.setIfInBounds_toArray,List.set_cons_zero,List.set_cons_succ]))
    focus (refine wpAnyH_done (by kernel_rfl) ?_ _)
    rotate_left
    focus (go_simp;refine hK.out _ _ trivial (fun hHeld=>?_);clear hK K;(try simp only [Act.put,List.setIfInBounds_toArray,List.set_cons_zero,List.set_cons_succ]))
    focus (refine wpAnyH_ready (rs:=[2]) (by kernel_rfl) (by simp) ?_;refine consA rfl (fun K hK=>?_) AllReadyH.nil;go_simp;go_at_call 117;(with_reducible refine (IH.out _).mono ?_);rintro e w1 ⟨rfl,hb⟩;have HB:RowKit.Hid (Below w.heap.size w w1):=btr Bw.out hb;(first | (have CV2:=CK.out w1 w.heap.size ((Blk.new w.drew 5 #[.int .u8 x]).below hb)) | skip);clear hb;(try go_wp2_with fail);refine hK.out _ _ trivial (fun hHeld=>?_);clear hK K;(try simp only [Act.put,List.setIfInBounds_toArray,List.set_cons_zero,List.set_cons_succ]))
    focus (refine wpAnyH_ready (rs:=[8]) (by kernel_rfl) (by simp) ?_;refine consA rfl (fun K hK=>?_) AllReadyH.nil;go_simp;refine hK.out _ _ trivial (fun hHeld=>?_);clear hK K;(try simp only [Act.put,List.setIfInBounds_toArray,List.set_cons_zero,List.set_cons_succ]))
    focus (refine wpAnyH_ready (rs:=[9]) (by kernel_rfl) (by simp) ?_;refine consA rfl (fun K hK=>?_) AllReadyH.nil;go_simp;refine hK.out _ _ trivial (fun hHeld=>?_);clear hK K;(try simp only [Act.put,List.setIfInBounds_toArray,List.set_cons_zero,List.set_cons_succ]))
    focus (refine wpAnyH_done (by kernel_rfl) ?_ _)
    all_goals go_wp2
    all_goals go_ret
    all_goals exact ⟨rfl,by first | exact HB.out | exact btr HB.out Bw.out⟩
  ·by_cases hs:n<10
   ·exact small n (by omega) hs w
   ·have IH:=hid (ih (n.tdiv 10) hq (by omega) (by omega))
    have hl:=itoa_len (n:=n.tdiv 10) (by omega) (by omega)
    obtain ⟨k,hk⟩:∃ k,n.tmod 10=k:=⟨_,rfl⟩
    obtain ⟨q,hqq⟩:∃ q,n.tdiv 10=q:=⟨_,rfl⟩
    have k1:0≤k∧k<10:=by omega
    rw [itoa_big (by omega),hk,hqq,← str_app]
    rw [hqq] at IH hl
    have CB:=dig_byte (k:=k) (by omega) (by omega)
    obtain ⟨c,hc⟩:∃ c,UInt8.ofNat (48+k.toNat)=c:=⟨_,rfl⟩
    rw [hc] at CB ⊢
    obtain ⟨t,ht⟩:∃ t:ByteArray,⟨(Lib.itoa q).toArray⟩=t:=⟨_,rfl⟩
    have htl:t.size+1≤65536:=by rw [← ht];show (Lib.itoa q).toArray.size+1≤_;simp;omega
    have htl2:¬ 9223372036854775807<t.size+1:=by omega
    rw [ht] at IH ⊢
    clear hc ih small nsmall ht hl
    obtain ⟨x,hx⟩:∃ x:Int,48+k=x:=⟨_,rfl⟩
    rw [hx] at CB
    have CV:=conv_at CB
    have CV3:=conv_blk CB (Blk.drew (Blk.new w 5 #[.int .u8 x]))
    have CK:=hid fun W g=>conv_blk (W:=W) (g:=g) CB
    have q2:IntKind.i64.wrap q=q:=IntWalk.i64_in _ (by omega)
    have q3:IntKind.i64.wrap (48+k)=x:=by rw [hx];exact IntWalk.i64_in _ (by omega)
    have q4:IntKind.u8.wrap x=x:=by rw [IntKind.wrap_u8'];omega
    clear CB htd h0 h1 h2 hq k1 hx
    go_enter Tryz.func117,Tryz.ntmps117
    go_upto_region 8 with fail
    refine wp_region_held_drew (S:=fun _=>True) (by kernel_rfl) trivial (fun hHeld=>?_)
    refine takeA 0 (v:=?_) rfl (by kernel_rfl) (by kernel_rfl) (by kernel_rfl) (fun _ _ _ h=>h) (Or.inl ⟨by rfl,?_⟩) (by assumption) ?_;rotate_left;focus ((intro w hSw;(try dsimp only at hSw);go_simp) <;> with_reducible rfl);(try simp only [Act.put,List.setIfInBounds_toArray,List.set_cons_zero,List.set_cons_succ])
    refine takeA 1 (v:=?_) rfl (by kernel_rfl) (by kernel_rfl) (by kernel_rfl) (fun _ _ _ h=>h) (Or.inl ⟨by rfl,?_⟩) (by assumption) ?_;rotate_left;focus ((intro w hSw;(try dsimp only at hSw);go_simp) <;> with_reducible rfl);(try simp only [Act.put,List.setIfInBounds_toArray,List.set_cons_zero,List.set_cons_succ])
    refine takeA 3 (v:=?_) rfl (by kernel_rfl) (by kernel_rfl) (by kernel_rfl) (fun _ _ _ h=>h) (Or.inl ⟨by rfl,?_⟩) (by assumption) ?_;rotate_left;focus ((intro w hSw;(try dsimp only at hSw);go_simp) <;> with_reducible rfl);(try simp only [Act.put,List.setIfInBounds_toArray,List.set_cons_zero,List.set_cons_succ])
    refine takeA 4 (v:=?_) rfl (by kernel_rfl) (by kernel_rfl) (by kernel_rfl) (fun _ _ _ h=>h) (Or.inl ⟨by rfl,?_⟩) (by assumption) ?_;rotate_left;focus ((intro w hSw;(try dsimp only at hSw);go_simp) <;> with_reducible rfl);(try simp only [Act.put,List.setIfInBounds_toArray,List.set_cons_zero,List.set_cons_succ])
    refine takeA 5 (v:=?_) rfl (by kernel_rfl) (by kernel_rfl) (by kernel_rfl) (fun _ _ _ h=>h) (Or.inl ⟨by rfl,?_⟩) (by assumption) ?_;rotate_left;focus ((intro w hSw;(try dsimp only at hSw);go_simp) <;> with_reducible rfl);(try simp only [Act.put,List.setIfInBounds_toArray,List.set_cons_zero,List.set_cons_succ])
    refine takeA 6 (v:=?_) rfl (by kernel_rfl) (by kernel_rfl) (by kernel_rfl) (fun _ _ _ h=>h) (Or.inl ⟨by rfl,?_⟩) (by assumption) ?_;rotate_left;focus ((intro w hSw;(try dsimp only at hSw);go_simp) <;> with_reducible rfl);(try simp only [Act.put,List.setIfInBounds_toArray,List.set_cons_zero,List.set_cons_succ])
    refine wpAnyH_ready (rs:=[2,7]) (by kernel_rfl) (by simp) ?_;refine consA rfl (fun K hK=>?_) (consA rfl (fun K hK=>?_) AllReadyH.nil)
    focus (go_simp;go_at_call 117;(with_reducible refine (IH.out _).mono ?_);rintro e w1 ⟨rfl,hb⟩;have HB:RowKit.Hid (Below w.heap.size w w1):=btr Bw.out hb;(first | (have CV2:=CK.out w1 w.heap.size ((Blk.new w.drew 5 #[.int .u8 x]).below hb)) | skip);clear hb;(try go_wp2_with fail);refine hK.out _ _ trivial (fun hHeld=>?_);clear hK K;(try simp only [Act.put,List.setIfInBounds_toArray,List.set_cons_zero,List.set_cons_succ]))
    focus (refine wpAnyH_ready (rs:=[7]) (by kernel_rfl) (by simp) ?_;refine consA rfl (fun K hK=>?_) AllReadyH.nil;go_simp;refine hK.out _ _ trivial (fun hHeld=>?_);clear hK K;(try simp only [Act.put,List.setIfInBounds_toArray,List.set_cons_zero,List.set_cons_succ]))
    focus (refine wpAnyH_ready (rs:=[8]) (by kernel_rfl) (by simp) ?_;refine consA rfl (fun K hK=>?_) AllReadyH.nil;go_simp;refine hK.out _ _ trivial (fun hHeld=>?_);clear hK K;(try simp only [Act.put,List.setIfInBounds_toArray,List.set_cons_zero,List.set_cons_succ]))
    focus (refine wpAnyH_ready (rs:=[9]) (by kernel_rfl) (by simp) ?_;refine consA rfl (fun K hK=>?_) AllReadyH.nil;go_simp;refine hK.out _ _ trivial (fun hHeld=>?_);clear hK K;(try simp only [Act.put,List.setIfInBounds_toArray,List.set_cons_zero,List.set_cons_succ]))
    focus (refine wpAnyH_ready (rs:=[10]) (by kernel_rfl) (by simp) ?_;refine consA rfl (fun K hK=>?_) AllReadyH.nil;go_simp;refine hK.out _ _ trivial (fun hHeld=>?_);clear hK K;(try simp only [Act.put,List.setIfInBounds_toArray,List.set_cons_zero,List.set_cons_succ]))
    focus (refine wpAnyH_done (by kernel_rfl) ?_ _)
    rotate_left
    focus (go_simp;refine hK.out _ _ trivial (fun hHeld=>?_);clear hK K;(try simp only [Act.put,List.setIfInBounds_toArray,List.set_cons_zero,List.set_cons_succ]))
    focus (refine wpAnyH_ready (rs:=[2,8]) (by kernel_rfl) (by simp) ?_;refine consA rfl (fun K hK=>?_) (consA rfl (fun K hK=>?_) AllReadyH.nil))
    focus (go_simp;go_at_call 117;(with_reducible refine (IH.out _).mono ?_);rintro e w1 ⟨rfl,hb⟩;have HB:RowKit.Hid (Below w.heap.size w w1):=btr Bw.out hb;(first | (have CV2:=CK.out w1 w.heap.size ((Blk.new w.drew 5 #[.int .u8 x]).below hb)) | skip);clear hb;(try go_wp2_with fail);refine hK.out _ _ trivial (fun hHeld=>?_);clear hK K;(try simp only [Act.put,List.setIfInBounds_toArray,List.set_cons_zero,List.set_cons_succ]))
    focus (refine wpAnyH_ready (rs:=[8]) (by kernel_rfl) (by simp) ?_;refine consA rfl (fun K hK=>?_) AllReadyH.nil;go_simp;refine hK.out _ _ trivial (fun hHeld=>?_);clear hK K;(try simp only [Act.put,List.setIfInBounds_toArray,List.set_cons_zero,List.set_cons_succ]))
    focus (refine wpAnyH_ready (rs:=[9]) (by kernel_rfl) (by simp) ?_;refine consA rfl (fun K hK=>?_) AllReadyH.nil;go_simp;refine hK.out _ _ trivial (fun hHeld=>?_);clear hK K;(try simp only [Act.put,List.setIfInBounds_toArray,List.set_cons_zero,List.set_cons_succ]))
    focus (refine wpAnyH_ready (rs:=[10]) (by kernel_rfl) (by simp) ?_;refine consA rfl (fun K hK=>?_) AllReadyH.nil;go_simp;refine hK.out _ _ trivial (fun hHeld=>?_);clear hK K;(try simp only [Act.put,List.setIfInBounds_toArray,List.set_cons_zero,List.set_cons_succ]))
    focus (refine wpAnyH_done (by kernel_rfl) ?_ _)
    rotate_left
    focus (go_simp;refine hK.out _ _ trivial (fun hHeld=>?_);clear hK K;(try simp only [Act.put,List.setIfInBounds_toArray,List.set_cons_zero,List.set_cons_succ]))
    focus (refine wpAnyH_ready (rs:=[2]) (by kernel_rfl) (by simp) ?_;refine consA rfl (fun K hK=>?_) AllReadyH.nil;go_simp;go_at_call 117;(with_reducible refine (IH.out _).mono ?_);rintro e w1 ⟨rfl,hb⟩;have HB:RowKit.Hid (Below w.heap.size w w1):=btr Bw.out hb;(first | (have CV2:=CK.out w1 w.heap.size ((Blk.new w.drew 5 #[.int .u8 x]).below hb)) | skip);clear hb;(try go_wp2_with fail);refine hK.out _ _ trivial (fun hHeld=>?_);clear hK K;(try simp only [Act.put,List.setIfInBounds_toArray,List.set_cons_zero,List.set_cons_succ]))
    focus (refine wpAnyH_ready (rs:=[9]) (by kernel_rfl) (by simp) ?_;refine consA rfl (fun K hK=>?_) AllReadyH.nil;go_simp;refine hK.out _ _ trivial (fun hHeld=>?_);clear hK K;(try simp only [Act.put,List.setIfInBounds_toArray,List.set_cons_zero,List.set_cons_succ]))
    focus (refine wpAnyH_ready (rs:=[10]) (by kernel_rfl) (by simp) ?_;refine consA rfl (fun K hK=>?_) AllReadyH.nil;go_simp;refine hK.out _ _ trivial (fun hHeld=>?_);clear hK K;(try simp only [Act.put,List.setIfInBounds_toArray,List.set_cons_zero,List.set_cons_succ]))
    focus (refine wpAnyH_done (by kernel_rfl) ?_ _)
    all_goals go_wp2
    all_goals go_ret
    all_goals exact ⟨rfl,by first | exact HB.out | exact btr HB.out Bw.out⟩
def isDig (b:UInt8):Prop:=48≤b.toNat∧b.toNat≤57
instance (b:UInt8):Decidable (isDig b):=inferInstanceAs (Decidable (_∧_))
def nstep (k:Nat) (n:Int) (b:UInt8):Int:=if k=1 then wrap64 (wrap64 (10 * n) - (b.toNat - 48:Int)) else wrap64 (wrap64 (10 * n)+(b.toNat - 48:Int))
def nval (k:Nat) (l:List UInt8):Int:=l.foldl (nstep k) 0
theorem nval_snoc (k:Nat) (l:List UInt8) (b:UInt8):nval k (l++[b])=nstep k (nval k l) b:=by simp [nval]
theorem wrap64_fit (n:Int):-9223372036854775808≤wrap64 n∧wrap64 n≤9223372036854775807:=by unfold wrap64;omega
theorem nstep_in (k:Nat) (n:Int) (b:UInt8):-9223372036854775808≤nstep k n b∧nstep k n b≤9223372036854775807:=by
 unfold nstep
 split <;> exact wrap64_fit _
theorem nfold_in (k:Nat) (l:List UInt8):∀ n:Int,-9223372036854775808≤n∧n≤9223372036854775807→-9223372036854775808≤l.foldl (nstep k) n∧l.foldl (nstep k) n≤9223372036854775807:=by
 induction l with
 | nil=>intro n h;exact h
 | cons b l ih=>intro n h;exact ih _ (nstep_in k n b)
theorem nval_in (k:Nat) (l:List UInt8):-9223372036854775808≤nval k l∧nval k l≤9223372036854775807:=nfold_in k l 0 ⟨by decide,by decide⟩
def sg (k:Nat) (u:Nat):Int:=if k=1 then -(u:Int) else (u:Int)
theorem decFrom_ge:∀ (l:List UInt8) (a u:Nat),Lib.decFrom a l=some u→a≤u:=by
 intro l
 induction l with
 | nil=>intro a u h;cases h;exact Nat.le_refl _
 | cons b l ih =>
  intro a u h
  rw [Lib.decFrom] at h
  split at h
  ·have:=ih _ _ h;omega
  ·cases h
theorem nfold_dec (k:Nat):∀ (l:List UInt8) (a u:Nat),Lib.decFrom a l=some u→u<100000000000000000→l.foldl (nstep k) (sg k a)=sg k u:=by
 intro l
 induction l with
 | nil=>intro a u h _;cases h;rfl
 | cons b l ih =>
  intro a u h hu
  rw [Lib.decFrom] at h
  split at h
  ·rename_i d hd
   have hge:=decFrom_ge _ _ _ h
   have:=ih _ _ h hu
   rw [List.foldl_cons,← this]
   congr 1
   unfold Lib.digitVal at hd
   split at hd
   ·cases hd
    unfold nstep sg
    split
    ·rw [IntWalk.wrap64_in (10 * _) (by omega),IntWalk.wrap64_in _ (by omega)];omega
    ·rw [IntWalk.wrap64_in (10 * _) (by omega),IntWalk.wrap64_in _ (by omega)];omega
   ·cases hd
  ·cases h
def nk (L:List UInt8):Nat:=if L.head? = some 45 then 1 else 0
theorem num_is {L:List UInt8} {m:Int} (h:L=Lib.itoa m) (h1:-1125899906842624≤m) (h2:m≤1125899906842624):1≤L.length∧L.length≤20∧(∀ b ∈ L.drop (nk L),isDig b)∧nval (nk L) (L.drop (nk L))=m:=by
 have hlen:L.length≤20:=by rw [h];have:=itoa_short (n:=m) (by omega) (by omega);omega
 rcases itoa_form m with ⟨hm,e⟩ | ⟨hm,e⟩
 ·rw [← h] at e
  have hk:nk L=1:=by rw [e];rfl
  refine ⟨by rw [e];simp,hlen,?_,?_⟩
  ·rw [hk,e];exact digits_all _
  ·rw [hk,e]
   have:=nfold_dec 1 (Lib.decDigits m.natAbs) 0 m.natAbs (dec_digits _) (by omega)
   unfold nval
   simpa [sg,show -(m.natAbs:Int)=m by omega] using this
 ·rw [← h] at e
  have hne:=digits_ne m.toNat
  rw [← e] at hne
  have hk:nk L=0:=by
   unfold nk
   rw [if_neg]
   intro hh
   have hmem:(45:UInt8) ∈ L:=List.mem_of_mem_head? hh
   rw [e] at hmem
   exact absurd (digits_all _ _ hmem).1 (by decide)
  refine ⟨List.length_pos_iff.2 hne,hlen,?_,?_⟩
  ·rw [hk,e];exact digits_all _
  ·rw [hk,e]
   have:=nfold_dec 0 (Lib.decDigits m.toNat) 0 m.toNat (dec_digits _) (by omega)
   unfold nval
   simpa [sg,show (m.toNat:Int)=m by omega] using this
theorem nuV_none {s:ByteArray} (h:∀ m,s.data.toList=Lib.itoa m→-1125899906842624≤m→m≤1125899906842624→False):nuV s=none:=numV_none h
theorem nuV_some {s:ByteArray} {m:Int} (h:s.data.toList=Lib.itoa m) (h1:-1125899906842624≤m) (h2:m≤1125899906842624):nuV s=some m:=by unfold nuV;rw [h];exact numV_some h1 h2
theorem str_eqs {t s:ByteArray}:(t.toList == s.toList)=decide (t.data.toList=s.data.toList):=by
 rw [ByteArray.toList_eq,ByteArray.toList_eq]
 exact Bool.eq_iff_iff.2 (by simp)
structure NumI (s:ByteArray) (k:Nat) (v i:Value) (p:Nat):Prop where
 hv:v=.int .i64 (nval k ((s.data.toList.drop k).take p))
 hi:i=.int .i64 ((k+p:Nat):Int)
 hp:k+p≤s.size
 hd:∀ b ∈ (s.data.toList.drop k).take p,isDig b
theorem rnumber_any (s:ByteArray) (w:World) :
  Calls Tryz.prog 125 #[.string s,.int .i64 (-1125899906842624),.int .i64 1125899906842624] w fun e w'=>e=.returned (.tuple #[.int .i64 ((nuV s).getD 0),.bool (nuV s).isSome])∧Below w.heap.size w w':=by
 by_cases hs0:s.size=0
 ·rw [nuV_none fun m h h1 h2=>by have:=(num_is h h1 h2).1;simp at this;exact absurd hs0 (by show s.data.size ≠ 0;omega)]
  go_enter Tryz.func125,Tryz.ntmps125
  go_wp2
  go_ret2
  exact ⟨rfl,Below.refl _ _⟩
 by_cases hs1:20<s.size
 ·rw [nuV_none fun m h h1 h2=>by have:=(num_is h h1 h2).2.1;simp at this;exact absurd hs1 (by show ¬ 20<s.data.size;omega)]
  have hs2:(20:Int)<s.size:=by omega
  go_enter Tryz.func125,Tryz.ntmps125
  go_wp2
  go_ret2
  exact ⟨rfl,Below.refl _ _⟩
 have z0:(0:Int)<s.size:=by omega
 have z1:¬ (20:Int)<s.size:=by omega
 have z2:0<s.size:=by omega
 obtain ⟨b0,hb0⟩:∃ b,s[0]=b:=⟨_,rfl⟩
 have hhead:s.data.toList.head? = some b0:=by
  have h0:0<s.data.size:=z2
  rw [List.head?_eq_getElem?,List.getElem?_eq_getElem (by simpa using h0),← hb0];rfl
 by_cases h45:b0=45
 ·have c0:(b0.toNat:Int)=45:=by rw [h45];rfl
  have hk:nk s.data.toList=1:=by unfold nk;rw [hhead,if_pos (by rw [h45])]
  clear hhead
  have hmem:∀ p b,(s.data.toList.drop 1)[p]? = some b→∀ m,s.data.toList=Lib.itoa m→-1125899906842624≤m→m≤1125899906842624→isDig b:=fun p b h m h1 h2 h3=>by
   have:=(num_is h1 h2 h3).2.2.1
   rw [hk] at this
   exact this b (List.mem_of_getElem? h)
  have heq:∀ m,s.data.toList=Lib.itoa m→-1125899906842624≤m→m≤1125899906842624→nval 1 (s.data.toList.drop 1)=m:=fun m h1 h2 h3=>by
   have:=(num_is h1 h2 h3).2.2.2
   rwa [hk] at this
  have HMEM:=hid hmem;have HEQ:=hid heq
  clear hmem heq hk h45
  go_enter Tryz.func125,Tryz.ntmps125
  go_wp2
  go_loopw [8,10] (fun v i wr=>∃ p:Nat,NumI s 1 v i p∧wr=w) (fun _ i _=>s.size - (intOf i).toNat)
  case atStart=>exact ⟨0,⟨rfl,rfl,by omega,by simp⟩,rfl⟩
  case round =>
   obtain ⟨p,⟨rfl,rfl,hp,hdig⟩,rfl⟩:=hrel
   obtain ⟨n,hn⟩:∃ n,nval 1 ((s.data.toList.drop 1).take p)=n:=⟨_,rfl⟩
   have hni:=nval_in 1 ((s.data.toList.drop 1).take p)
   rw [hn] at hni ⊢
   have hlen:(s.data.toList.drop 1).length=s.size - 1:=by rw [List.length_drop,Array.length_toList];rfl
   have HDIG:=hid hdig
   clear hdig
   by_cases hlt:1+p<s.size
   ·have y1:((1+p:Nat):Int)<s.size:=by omega
    have hpl:p<(s.data.toList.drop 1).length:=by omega
    have hget:(s.data.toList.drop 1)[p]'hpl=s[1+p]'hlt:=by
     rw [List.getElem_drop];rfl
    obtain ⟨b,hb⟩:∃ b,s[1+p]'hlt=b:=⟨_,rfl⟩
    rw [hb] at hget
    have htk:(s.data.toList.drop 1).take (p+1)=(s.data.toList.drop 1).take p++[b]:=by
     rw [← hget];exact List.take_succ_eq_append_getElem _
    have HTK:=hid htk
    have HBD:=hid (HMEM.out p b (by rw [← hget];exact List.getElem?_eq_getElem hpl))
    have HN:=hid hn
    have hbl:b.toNat<256:=b.toNat_lt
    clear hget htk hlen hn
    by_cases hd:isDig b
    ·have HB:=hid hd
     obtain ⟨d1,d2⟩:=hd
     have d3:(48:Int)≤b.toNat:=by omega
     have d4:(b.toNat:Int)≤57:=by omega
     have d5:¬ (b.toNat:Int)<48:=by omega
     have d6:¬ (57:Int)<b.toNat:=by omega
     have d7:IntKind.u8.wrap ((b.toNat:Int) - 48)=(b.toNat:Int) - 48:=by rw [IntKind.wrap_u8'];omega
     go_wp2
     go_roundw
     case rel =>
      refine ⟨p+1,⟨?_,?_,by omega,?_⟩,trivial⟩
      ·rw [HTK.out,nval_snoc,HN.out];simp [nstep]
      ·simp;try omega
      ·rw [HTK.out]
       intro x hx
       rcases List.mem_append.1 hx with hx | hx
       ·exact HDIG.out x hx
       ·rw [List.mem_singleton.1 hx];exact HB.out
     case measure=>simp [intOf];omega
    ·have d1:((b.toNat:Int)<48∧¬ (57:Int)<b.toNat)∨(¬ (b.toNat:Int)<48∧(57:Int)<b.toNat):=by
      unfold isDig at hd;omega
     have HB:=hid hd
     clear hd
     rcases d1 with ⟨d1,d2⟩ | ⟨d1,d2⟩
     all_goals go_wp2
     all_goals go_ret2
     all_goals rw [nuV_none fun m h h1 h2=>HB.out (HBD.out m h h1 h2)]
     all_goals exact ⟨rfl,Below.refl _ _⟩
   ·have y1:¬ ((1+p:Nat):Int)<s.size:=by omega
    have HD:=hid fun W=>rdec_any 20 n (by simp;omega) hni.1 hni.2 W
    have hall:nval 1 (s.data.toList.drop 1)=n:=by
     rw [← hn,List.take_of_length_le (by omega)]
    clear hn hlen
    by_cases he:Lib.itoa n=s.data.toList
    ·have q0:((⟨(Lib.itoa n).toArray⟩:ByteArray).toList == s.toList)=true:=by rw [str_eqs];simpa using he
     obtain ⟨t,ht⟩:∃ t:ByteArray,⟨(Lib.itoa n).toArray⟩=t:=⟨_,rfl⟩
     have HV:=hid fun h1 h2=>nuV_some (s:=s) (m:=n) he.symm h1 h2
     have HW:=hid fun (h:¬ (-1125899906842624≤n∧n≤1125899906842624))=>nuV_none (s:=s) fun m h1 h2 h3=>h (by have:=HEQ.out m h1 h2 h3;rw [hall] at this;subst this;exact ⟨h2,h3⟩)
     rw [ht] at q0 HD
     clear ht he hall
     by_cases l1:n < -1125899906842624
     ·go_wp2_with (go_at_call 117;refine (HD.out _).mono ?_;rintro e w1 ⟨rfl,hb⟩;have HB:=hid hb;clear hb)
      go_ret2
      rw [HW.out (by omega)]
      exact ⟨rfl,HB.out⟩
     ·by_cases l2:(1125899906842624:Int)<n
      ·go_wp2_with (go_at_call 117;refine (HD.out _).mono ?_;rintro e w1 ⟨rfl,hb⟩;have HB:=hid hb;clear hb)
       go_ret2
       rw [HW.out (by omega)]
       exact ⟨rfl,HB.out⟩
      ·go_wp2_with (go_at_call 117;refine (HD.out _).mono ?_;rintro e w1 ⟨rfl,hb⟩;have HB:=hid hb;clear hb)
       go_ret2
       rw [HV.out (by omega) (by omega)]
       exact ⟨rfl,HB.out⟩
    ·have q0:((⟨(Lib.itoa n).toArray⟩:ByteArray).toList == s.toList)=false:=by rw [str_eqs];simpa using he
     have HW:=hid (nuV_none (s:=s) fun m h1 h2 h3=>he (by have:=HEQ.out m h1 h2 h3;rw [hall] at this;subst this;exact h1.symm))
     obtain ⟨t,ht⟩:∃ t:ByteArray,⟨(Lib.itoa n).toArray⟩=t:=⟨_,rfl⟩
     rw [ht] at q0 HD
     clear ht he hall
     go_wp2_with (go_at_call 117;refine (HD.out _).mono ?_;rintro e w1 ⟨rfl,hb⟩;have HB:=hid hb;clear hb)
     go_ret2
     rw [HW.out]
     exact ⟨rfl,HB.out⟩
 ·have c0:¬ (b0.toNat:Int)=45:=by intro h;exact h45 (UInt8.toNat_inj.1 (by have:(45:UInt8).toNat=45:=rfl;omega))
  have hk:nk s.data.toList=0:=by unfold nk;rw [hhead,if_neg (by simpa using h45)]
  clear hhead
  have hmem:∀ p b,(s.data.toList.drop 0)[p]? = some b→∀ m,s.data.toList=Lib.itoa m→-1125899906842624≤m→m≤1125899906842624→isDig b:=fun p b h m h1 h2 h3=>by
   have:=(num_is h1 h2 h3).2.2.1
   rw [hk] at this
   exact this b (List.mem_of_getElem? h)
  have heq:∀ m,s.data.toList=Lib.itoa m→-1125899906842624≤m→m≤1125899906842624→nval 0 (s.data.toList.drop 0)=m:=fun m h1 h2 h3=>by
   have:=(num_is h1 h2 h3).2.2.2
   rwa [hk] at this
  have HMEM:=hid hmem;have HEQ:=hid heq
  clear hmem heq hk h45
  go_enter Tryz.func125,Tryz.ntmps125
  go_wp2
  go_loopw [8,10] (fun v i wr=>∃ p:Nat,NumI s 0 v i p∧wr=w) (fun _ i _=>s.size - (intOf i).toNat)
  case atStart=>exact ⟨0,⟨rfl,rfl,by omega,by simp⟩,rfl⟩
  case round =>
   obtain ⟨p,⟨rfl,rfl,hp,hdig⟩,rfl⟩:=hrel
   obtain ⟨n,hn⟩:∃ n,nval 0 ((s.data.toList.drop 0).take p)=n:=⟨_,rfl⟩
   have hni:=nval_in 0 ((s.data.toList.drop 0).take p)
   rw [hn] at hni ⊢
   have hlen:(s.data.toList.drop 0).length=s.size - 0:=by rw [List.length_drop,Array.length_toList];rfl
   have HDIG:=hid hdig
   clear hdig
   by_cases hlt:p<s.size
   ·have y1:((p:Nat):Int)<s.size:=by omega
    have hpl:p<(s.data.toList.drop 0).length:=by omega
    have hget:(s.data.toList.drop 0)[p]'hpl=s[p]'hlt:=by
     simp only [List.drop_zero];rfl
    obtain ⟨b,hb⟩:∃ b,s[p]'hlt=b:=⟨_,rfl⟩
    rw [hb] at hget
    have htk:(s.data.toList.drop 0).take (p+1)=(s.data.toList.drop 0).take p++[b]:=by
     rw [← hget];exact List.take_succ_eq_append_getElem _
    have HTK:=hid htk
    have HBD:=hid (HMEM.out p b (by rw [← hget];exact List.getElem?_eq_getElem hpl))
    have HN:=hid hn
    have hbl:b.toNat<256:=b.toNat_lt
    clear hget htk hlen hn
    by_cases hd:isDig b
    ·have HB:=hid hd
     obtain ⟨d1,d2⟩:=hd
     have d3:(48:Int)≤b.toNat:=by omega
     have d4:(b.toNat:Int)≤57:=by omega
     have d5:¬ (b.toNat:Int)<48:=by omega
     have d6:¬ (57:Int)<b.toNat:=by omega
     have d7:IntKind.u8.wrap ((b.toNat:Int) - 48)=(b.toNat:Int) - 48:=by rw [IntKind.wrap_u8'];omega
     go_wp2
     go_roundw
     case rel =>
      refine ⟨p+1,⟨?_,?_,by omega,?_⟩,trivial⟩
      ·rw [HTK.out,nval_snoc,HN.out];simp [nstep]
      ·simp;try omega
      ·rw [HTK.out]
       intro x hx
       rcases List.mem_append.1 hx with hx | hx
       ·exact HDIG.out x hx
       ·rw [List.mem_singleton.1 hx];exact HB.out
     case measure=>simp [intOf];omega
    ·have d1:((b.toNat:Int)<48∧¬ (57:Int)<b.toNat)∨(¬ (b.toNat:Int)<48∧(57:Int)<b.toNat):=by
      unfold isDig at hd;omega
     have HB:=hid hd
     clear hd
     rcases d1 with ⟨d1,d2⟩ | ⟨d1,d2⟩
     all_goals go_wp2
     all_goals go_ret2
     all_goals rw [nuV_none fun m h h1 h2=>HB.out (HBD.out m h h1 h2)]
     all_goals exact ⟨rfl,Below.refl _ _⟩
   ·have y1:¬ ((p:Nat):Int)<s.size:=by omega
    have HD:=hid fun W=>rdec_any 20 n (by simp;omega) hni.1 hni.2 W
    have hall:nval 0 (s.data.toList.drop 0)=n:=by
     rw [← hn,List.take_of_length_le (by omega)]
    clear hn hlen
    by_cases he:Lib.itoa n=s.data.toList
    ·have q0:((⟨(Lib.itoa n).toArray⟩:ByteArray).toList == s.toList)=true:=by rw [str_eqs];simpa using he
     obtain ⟨t,ht⟩:∃ t:ByteArray,⟨(Lib.itoa n).toArray⟩=t:=⟨_,rfl⟩
     have HV:=hid fun h1 h2=>nuV_some (s:=s) (m:=n) he.symm h1 h2
     have HW:=hid fun (h:¬ (-1125899906842624≤n∧n≤1125899906842624))=>nuV_none (s:=s) fun m h1 h2 h3=>h (by have:=HEQ.out m h1 h2 h3;rw [hall] at this;subst this;exact ⟨h2,h3⟩)
     rw [ht] at q0 HD
     clear ht he hall
     by_cases l1:n < -1125899906842624
     ·go_wp2_with (go_at_call 117;refine (HD.out _).mono ?_;rintro e w1 ⟨rfl,hb⟩;have HB:=hid hb;clear hb)
      go_ret2
      rw [HW.out (by omega)]
      exact ⟨rfl,HB.out⟩
     ·by_cases l2:(1125899906842624:Int)<n
      ·go_wp2_with (go_at_call 117;refine (HD.out _).mono ?_;rintro e w1 ⟨rfl,hb⟩;have HB:=hid hb;clear hb)
       go_ret2
       rw [HW.out (by omega)]
       exact ⟨rfl,HB.out⟩
      ·go_wp2_with (go_at_call 117;refine (HD.out _).mono ?_;rintro e w1 ⟨rfl,hb⟩;have HB:=hid hb;clear hb)
       go_ret2
       rw [HV.out (by omega) (by omega)]
       exact ⟨rfl,HB.out⟩
    ·have q0:((⟨(Lib.itoa n).toArray⟩:ByteArray).toList == s.toList)=false:=by rw [str_eqs];simpa using he
     have HW:=hid (nuV_none (s:=s) fun m h1 h2 h3=>he (by have:=HEQ.out m h1 h2 h3;rw [hall] at this;subst this;exact h1.symm))
     obtain ⟨t,ht⟩:∃ t:ByteArray,⟨(Lib.itoa n).toArray⟩=t:=⟨_,rfl⟩
     rw [ht] at q0 HD
     clear ht he hall
     go_wp2_with (go_at_call 117;refine (HD.out _).mono ?_;rintro e w1 ⟨rfl,hb⟩;have HB:=hid hb;clear hb)
     go_ret2
     rw [HW.out]
     exact ⟨rfl,HB.out⟩
end Go.Proofs.YtancajcelmhnkaaGreatDoor
