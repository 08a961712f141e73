/- The law TermAnswers,walked. (Printed by gen4/lans.py.) -/
import Derived.Test.YtancajcelmhnkaaGreatDoorLa
set_option maxRecDepth 100000
set_option maxHeartbeats 8000000
namespace Go.Proofs.YtancajcelmhnkaaGreatDoor
open Go.RowKit Go.Sort Go.Shelf
set_option linter.unusedVariables false
set_option linter.unusedSimpArgs false
theorem answers_any (t : TmM) (wa : Option Addr) (wn wq : Nat) (ws : List ByteArray) (bye : Int) (A : Option Addr) (len cap : Nat) (zs : List Int) (w : World) (ht : TmOk w t) (hz : t.pl.size ≤ 2147483647) (hws : WsV w wa wn wq ws) (hsp : wa = none ∨ ∃ b off : Nat, wa = some ⟨b, off, none⟩) (hr : IsRow .i64 w A len cap zs) (hN : NumW w) (htab : Lib.TabIs Tryz.prog w "strings.asciiSpace" .u8 Lib.asciiSpaceTab) :
  Calls Tryz.prog 8 #[.agg (encTm t).toArray,.slice wa wn wq,.int .i64 bye,.slice A len cap] w fun e w'=>e=.returned (.bool true)∧Below w.heap.size w w':=by
 have HSM:=hid fun W' (hW':Below w.heap.size w W')=>small_any t 60 (by omega) W' (ht.beh hW') hz
 have TI:RowKit.Hid ((Tryz.prog.info? 24).map (·.size)=some (encTm t).toArray.size):=encTm_info t
 obtain ⟨tb,htb⟩:∃ tb,(encTm t).toArray=tb:=⟨_,rfl⟩
 have HTB:=hid htb
 obtain ⟨W,hW⟩:∃ W,w.alloc (.cells tb 24)=W:=⟨_,rfl⟩
 have B0:RowKit.Hid (Blk W w.heap.size 24 tb):=by show Blk _ _ _ _;rw [← hW];exact Blk.new w _ _
 have BB:RowKit.Hid (Below w.heap.size w W):=by show Below _ _ _;rw [← hW];exact Bw.out
 have yW:=B0.out.lt
 have HT:=hid ht;have HZ:=hid hz;have HRW:=hid hr;have HWS:=hid hws;have HSP:=hid hsp;have HNW:=hid hN;have HTAB:=hid htab
 rw [htb] at HSM TI ⊢
 have hwl:=hws.len
 clear ht hz hr htb hws hsp hN htab
 by_cases hsm:t.pl.size≤60
 case neg =>
  have HS:RowKit.Hid (∀ W',Below w.heap.size w W'→Calls Tryz.prog 9 #[.agg tb,.int .i64 60] W' fun e w'=>e=.returned (.bool false)∧Below W'.heap.size W' w'):=fun W' hW'=>(HSM.out W' hW').mono fun e w' h=>⟨by rw [h.1,decide_eq_false hsm],h.2⟩
  clear hsm HSM
  go_enter Tryz.func8,Tryz.ntmps8
  go_wp2_with (first
   | (refine wpList_load_row rfl 24 (.tmp 4) rfl w.heap.size rfl _ tb _ _ B0.out Tryz.underlying24 rfl TI.out ?_)
   | (go_at_call 9;refine (HS.out _ BB.out).mono ?_;rintro e w1 ⟨rfl,hb1⟩;have HB1:=hid (btr BB.out hb1);clear hb1)
   | (go_at_call 10;refine (awake_any _).mono ?_;rintro e w2 ⟨rfl,hb2⟩;have HB2:=hid (btr HB1.out hb2);clear hb2))
  go_ret
  exact ⟨rfl,HB2.out⟩
 have HS:RowKit.Hid (∀ W',Below w.heap.size w W'→Calls Tryz.prog 9 #[.agg tb,.int .i64 60] W' fun e w'=>e=.returned (.bool true)∧Below W'.heap.size W' w'):=fun W' hW'=>(HSM.out W' hW').mono fun e w' h=>⟨by rw [h.1,decide_eq_true hsm],h.2⟩
 clear hsm HSM
 by_cases hw60:wn≤60
 case neg =>
  have i60:(60:Int)<(wn:Int):=by omega
  go_enter Tryz.func8,Tryz.ntmps8
  go_wp2_with (first
   | (refine wpList_load_row rfl 24 (.tmp 4) rfl w.heap.size rfl _ tb _ _ B0.out Tryz.underlying24 rfl TI.out ?_)
   | (go_at_call 9;refine (HS.out _ BB.out).mono ?_;rintro e w1 ⟨rfl,hb1⟩;have HB1:=hid (btr BB.out hb1);clear hb1)
   | (go_at_call 10;refine (awake_any _).mono ?_;rintro e w2 ⟨rfl,hb2⟩;have HB2:=hid (btr HB1.out hb2);clear hb2))
  go_ret
  exact ⟨rfl,HB2.out⟩
 have i60:¬ (60:Int)<(wn:Int):=by omega
 go_enter Tryz.func8,Tryz.ntmps8
 go_wp2_with (first
  | (refine wpList_load_row rfl 24 (.tmp 4) rfl w.heap.size rfl _ tb _ _ B0.out Tryz.underlying24 rfl TI.out ?_)
  | (go_at_call 9;refine (HS.out _ BB.out).mono ?_;rintro e wA ⟨rfl,hbA⟩;have HBA:=hid (btr BB.out hbA);have BA0:=hid (B0.out.below hbA);have yA:=hbA.size;clear hbA))
 go_loopw [43] (fun v wr=>∃ k:Nat,k≤wn∧v=.int .i64 k∧(∀ i s,i<k→ws[i]? = some s→s.size≤30)∧wr=wA) (fun v _=>wn+1 - (intOf v).toNat)
 case atStart=>exact ⟨0,Nat.zero_le _,rfl,(fun i s h=>by omega),rfl⟩
 case round =>
 obtain ⟨k,hk,rfl,hsml,hwr⟩:=hrel
 have HSML:=hid hsml
 have HBR:RowKit.Hid (Below w.heap.size w wr):=hid (hwr ▸ HBA.out)
 have BR0:RowKit.Hid (Blk wr w.heap.size 24 tb):=hid (hwr ▸ BA0.out)
 have HWR:=hid hwr
 have yR:W.heap.size≤wr.heap.size:=by rw [hwr];exact yA
 clear hsml hwr
 by_cases hlt:k<wn
 case pos =>
  obtain ⟨s,hs⟩:∃ s,ws[k]? = some s:=⟨_,List.getElem?_eq_getElem (by omega)⟩
  have HSK:=hid hs
  obtain ⟨b,off,e,hc⟩:=HWS.out.vw k (.string s) (str_at hs)
  have hcell:=bc1 HBR.out hc
  clear hs hc
  subst e
  by_cases h30:s.size≤30
  case neg =>
   have i30:(30:Int)<(s.size:Int):=by omega
   go_wp2_with (go_at_call 10;refine (awake_any _).mono ?_;rintro e w2 ⟨rfl,hb2⟩;have HB2:=hid (btr HBR.out hb2);clear hb2)
   go_ret
   exact ⟨rfl,HB2.out⟩
  have i30:¬ (30:Int)<(s.size:Int):=by omega
  go_wp2
  go_roundw
  case rel =>
   refine ⟨k+1,by omega,by go_num,fun i s' hi hs'=>?_,HWR.out⟩
   by_cases e:i=k
   ·subst e;rw [HSK.out] at hs';cases hs';exact h30
   ·exact HSML.out i s' (by omega) hs'
  case measure=>simp [intOf];omega
 obtain rfl:wn=k:=by omega
 have HSZ:RowKit.Hid (∀ s ∈ ws,s.size≤1000):=hid fun s hs=>by
  obtain ⟨i,hi⟩:=List.getElem?_of_mem hs
  have:=HSML.out i s (by have:=(List.getElem?_eq_some_iff.1 hi).1;omega) hi
  omega
 have HN:=hid (new_any A len cap zs wr (isRow_bel HRW.out HBR.out))
 clear HSML HWR HBA BA0 HS HRW BB hW
 go_upto_region 10 with (go_at_call 11;refine HN.out.mono ?_;rintro e w1 ⟨rfl,hb1,ht1⟩;have HB1:=hid (btr HBR.out hb1);have T1:=hid ht1;have B1:=hid (BR0.out.below hb1);have y1:=ht1.lt;clear hb1 ht1)
 obtain ⟨gT,hgT⟩:∃ g,wr.heap.size=g:=⟨_,rfl⟩
 rw [hgT] at T1 y1 yR ⊢
 clear hgT HN HBR BR0
 go_upto_region 11 with (first
  | (go_at_call 19;refine (kspoilt_any gT bye w1 T1.out).mono ?_;rintro e w2 ⟨⟨o2,n2,m2,a2,l2,c2,k2⟩,rfl,h1,h2,h3,hs2⟩;have OK2:=hid h1;have FR2:=hid h2;have SZ2:=hid h3;have S2:=hid hs2;have y2:=hs2.size;dsimp only [encTm];clear h1 h2 h3 hs2)
  | (go_at_call 18;refine (kterm_any 2 gT w2 S2.out.now (by decide)).mono ?_;rintro e w3 ⟨⟨o3,n3,m3,a3,l3,c3,k3⟩,rfl,hk3,hs3⟩;have K3:=hid hk3;have S3:=hid hs3;have y3:=hs3.size;have BZ12:RowKit.Hid (Blk ((w3.alloc (.cells #[.int .i64 0,.int .i64 0,.int .i64 0,.slice none 0 0] 24)).alloc (.cells #[.int .i64 0,.int .i64 0,.int .i64 0,.slice none 0 0] 24)) w3.heap.size 24 #[.int .i64 0,.int .i64 0,.int .i64 0,.slice none 0 0]):=hid ((Blk.new w3 _ _).alloc _);have BZ13:RowKit.Hid (Blk (((w3.alloc (.cells #[.int .i64 0,.int .i64 0,.int .i64 0,.slice none 0 0] 24)).alloc (.cells #[.int .i64 0,.int .i64 0,.int .i64 0,.slice none 0 0] 24)).setRow w3.heap.size #[.int .i64 o2,.int .i64 n2,.int .i64 m2,.slice a2 l2 c2]) (w3.heap.size+1) 24 #[.int .i64 0,.int .i64 0,.int .i64 0,.slice none 0 0]):=hid ((setRow_other _ _ _ _ (by omega)).trans (Blk.fresh (by simp)));dsimp only [encTm];clear hk3 hs3)
  | (refine wpList_store_row rfl 24 (.tmp 12) (.tmp 56) rfl w3.heap.size #[.int .i64 o2,.int .i64 n2,.int .i64 m2,.slice a2 l2 c2] rfl rfl _ _ BZ12.out tmInfo rfl (tm_one _ _ _ _ _ _) ?_)
  | (refine wpList_store_row rfl 24 (.tmp 13) (.tmp 58) rfl (w3.heap.size+1) #[.int .i64 o3,.int .i64 n3,.int .i64 m3,.slice a3 l3 c3] rfl rfl _ _ BZ13.out tmInfo rfl (tm_one _ _ _ _ _ _) ?_))
 have S13:=hid (sts S2.out S3.out)
 have BW3:RowKit.Hid (Below w.heap.size w w3):=hid (bos HB1.out (by omega) S13.out)
 have BRW:=hid (B1.out.step S13.out (by omega))
 obtain ⟨g3,hg3⟩:∃ g,w3.heap.size=g:=⟨_,rfl⟩
 obtain ⟨W9,hW9⟩:∃ X,(((w3.alloc (.cells #[.int .i64 0,.int .i64 0,.int .i64 0,.slice none 0 0] 24)).alloc (.cells #[.int .i64 0,.int .i64 0,.int .i64 0,.slice none 0 0] 24)).setRow g3 #[.int .i64 o2,.int .i64 n2,.int .i64 m2,.slice a2 l2 c2])=X:=⟨_,rfl⟩
 obtain ⟨W10,hW10⟩:∃ X,W9.setRow (g3+1) #[.int .i64 o3,.int .i64 n3,.int .i64 m3,.slice a3 l3 c3]=X:=⟨_,rfl⟩
 rw [hg3] at BZ12 BZ13
 rw [hW9] at BZ13
 have B310:RowKit.Hid (Below w3.heap.size w3 W10):=hid (by
  rw [← hW10,← hW9]
  exact below_setRow (below_setRow (bal (bal (Below.refl _ _) _) _) (by omega) _) (by omega) _)
 have BLA:RowKit.Hid (Blk W10 g3 24 #[.int .i64 o2,.int .i64 n2,.int .i64 m2,.slice a2 l2 c2]):=hid (by
  rw [← hW10,← hW9]
  exact (setRow_other _ _ _ _ (by omega)).trans (setRow_heap _ g3 _ #[.int .i64 o2,.int .i64 n2,.int .i64 m2,.slice a2 l2 c2] _ _ BZ12.out))
 have BLB:RowKit.Hid (Blk W10 (g3+1) 24 #[.int .i64 o3,.int .i64 n3,.int .i64 m3,.slice a3 l3 c3]):=hid (by
  rw [← hW10]
  exact setRow_heap W9 (g3+1) _ #[.int .i64 o3,.int .i64 n3,.int .i64 m3,.slice a3 l3 c3] _ _ BZ13.out)
 have BR10:=hid (BRW.out.below B310.out)
 rw [hg3,hW9,hW10]
 have y10:=B310.out.size
 have yt:gT<w3.heap.size:=by omega
 clear hW9 hW10 BZ12 BZ13 BRW
 obtain ⟨o1,n1,m1,a1,l1,c1,k1⟩:=t
 have hte:=HTB.out
 dsimp only [encTm] at hte
 subst hte
 go_simp
 go_cut [62,63,64] (fun s62 s63 s64 wx=>∃ (gt:Nat) (L:List TmM),s62=.slice (some ⟨gt,0,none⟩) 3 3∧s63=.int .i64 3∧s64=.int .i64 0∧AnL gT (g3+1) gt w wx L (TmM.mk o3 n3 m3 a3 l3 c3 k3))
 case first =>
  go_wp2_with (first
   | (refine wpList_load_row rfl 24 (.tmp 4) rfl w.heap.size rfl _ #[.int .i64 o1,.int .i64 n1,.int .i64 m1,.slice a1 l1 c1] _ _ BR10.out Tryz.underlying24 rfl tmInfo ?_)
   | (refine wpList_load_row rfl 24 (.tmp 12) rfl g3 rfl _ #[.int .i64 o2,.int .i64 n2,.int .i64 m2,.slice a2 l2 c2] _ _ BLA.out Tryz.underlying24 rfl tmInfo ?_)
   | (refine wpList_load_row rfl 24 (.tmp 13) rfl (g3+1) rfl _ #[.int .i64 o3,.int .i64 n3,.int .i64 m3,.slice a3 l3 c3] _ _ BLB.out Tryz.underlying24 rfl tmInfo ?_))
  go_meet
  case rel =>
   have BN:Below W10.heap.size W10 (W10.alloc (.cells (cellsOf encTm [(TmM.mk o1 n1 m1 a1 l1 c1 k1),(TmM.mk o2 n2 m2 a2 l2 c2 k2),(TmM.mk o3 n3 m3 a3 l3 c3 k3)]).toArray 24)):=bal (Below.refl _ _) _
   have BF:=hid (btr B310.out BN)
   refine ⟨W10.heap.size,[(TmM.mk o1 n1 m1 a1 l1 c1 k1),(TmM.mk o2 n2 m2 a2 l2 c2 k2),(TmM.mk o3 n3 m3 a3 l3 c3 k3)],rfl,rfl,rfl,⟨btr BW3.out BF.out,S13.out.now.below BF.out,BLB.out.below BN,Blk.new W10 _ _,?_,K3.out.ok.beh BF.out,?_,K3.out.chk (by decide),rfl⟩⟩
   ·intro t ht
    rcases List.mem_cons.1 ht with rfl | ht
    ·exact ⟨HT.out.beh (btr BW3.out BF.out),HZ.out⟩
    rcases List.mem_cons.1 ht with rfl | ht
    ·exact ⟨(OK2.out.stepF FR2.out S3.out (by omega)).beh BF.out,Nat.le_trans SZ2.out (by decide)⟩
    ·rw [List.mem_singleton.1 ht]
     have z:=K3.out.size
     have e:(2:Nat) ^ (2+1)=8:=by decide
     rw [e] at z
     exact ⟨K3.out.ok.beh BF.out,by omega⟩
   ·have z:=K3.out.size
    have e:(2:Nat) ^ (2+1)=8:=by decide
    rw [e] at z
    omega
 case rest =>
 obtain ⟨gt,L,rfl,rfl,rfl,hL⟩:=hcut
 have HL:=hid hL
 clear hL BR10 BLA BLB B310 BW3 S13 S2 S3 K3 OK2 FR2 SZ2 HT HZ B0 B1 T1 HB1 TI HTB
 go_wp2
 go_loopw [64] (fun v wr=>∃ k:Nat,k≤3∧v=.int .i64 k∧Below wc.heap.size wc wr) (fun v _=>4 - (intOf v).toNat)
 case atStart=>exact ⟨0,by decide,rfl,Below.refl _ _⟩
 case round =>
 obtain ⟨k,hk,rfl,hb⟩:=hrel
 have HB:=hid hb
 clear hb
 have HR:=hid (HL.out.bel HB.out)
 have hlen:L.length=3:=HL.out.len
 by_cases hlt:k<3
 case pos =>
  have hkL:k<L.length:=by omega
  have HRG:RowKit.Hid (wr.rangeAt gt (k * 4) (encTm L[k])):=blk_rngA HR.out.tm hkL
  have HTO:=hid (HR.out.ok L[k] (List.getElem_mem hkL)).1
  have HZZ:=hid (HR.out.ok L[k] (List.getElem_mem hkL)).2
  have HBO:=hid HR.out.bok;have HBL:=hid HR.out.bl
  obtain ⟨t,ht⟩:∃ t,L[k]=t:=⟨_,rfl⟩
  rw [ht] at HRG HTO HZZ
  clear ht
  obtain ⟨o1,n1,m1,a1,l1,c1,k1⟩:=t
  dsimp only [encTm] at HRG HBL
  obtain ⟨tp,htp⟩:∃ p,(TmM.mk o1 n1 m1 a1 l1 c1 k1).pl=p:=⟨_,rfl⟩
  obtain ⟨bp,hbp⟩:∃ p,(TmM.mk o3 n3 m3 a3 l3 c3 k3).pl=p:=⟨_,rfl⟩
  obtain ⟨ck,hck⟩:∃ p,chkT tp=p:=⟨_,rfl⟩
  obtain ⟨bk,hbk⟩:∃ p,backV tp=p:=⟨_,rfl⟩
  obtain ⟨pv,hpv⟩:∃ p,printV tp=p:=⟨_,rfl⟩
  obtain ⟨sb,hsb⟩:∃ p,samB tp bp=p:=⟨_,rfl⟩
  have hss:samB tp tp=true:=samB_yes rfl
  rw [htp] at HZZ
  have HP1:RowKit.Hid (∀ X,Below wr.heap.size wr X→Calls Tryz.prog 34 #[.agg #[.int .i64 o1,.int .i64 n1,.int .i64 m1,.slice a1 l1 c1]] X fun e w'=>e=.returned (.tuple #[.string pv,.int .i64 ck])∧Below X.heap.size X w'):=hid fun X hX=>(Print_all (TmM.mk o1 n1 m1 a1 l1 c1 k1) X (HTO.out.beh hX)).mono fun e w' h=>⟨by rw [h.1,htp,hpv,hck],h.2⟩
  have HP2:RowKit.Hid (∀ X,Below wr.heap.size wr X→Calls Tryz.prog 39 #[.agg #[.int .i64 o1,.int .i64 n1,.int .i64 m1,.slice a1 l1 c1]] X fun e w'=>e=.returned (.tuple #[.string pv,.int .i64 ck])∧Below X.heap.size X w'):=hid fun X hX=>(rPrint_all (TmM.mk o1 n1 m1 a1 l1 c1 k1) X (HTO.out.beh hX) (by rw [htp];exact HZZ.out)).mono fun e w' h=>⟨by rw [h.1,htp,hpv,hck],h.2⟩
  have HC1:RowKit.Hid (∀ X,Below wr.heap.size wr X→Calls Tryz.prog 40 #[.agg #[.int .i64 o1,.int .i64 n1,.int .i64 m1,.slice a1 l1 c1]] X fun e w'=>e=.returned (.int .i64 ck)∧Below X.heap.size X w'):=hid fun X hX=>(check_any (TmM.mk o1 n1 m1 a1 l1 c1 k1) X (HTO.out.beh hX)).mono fun e w' h=>⟨by rw [h.1,htp,hck],h.2⟩
  have HC2:RowKit.Hid (∀ X,Below wr.heap.size wr X→Calls Tryz.prog 41 #[.agg #[.int .i64 o1,.int .i64 n1,.int .i64 m1,.slice a1 l1 c1]] X fun e w'=>e=.returned (.int .i64 ck)∧Below X.heap.size X w'):=hid fun X hX=>(rcheck_any (TmM.mk o1 n1 m1 a1 l1 c1 k1) X (HTO.out.beh hX) (by rw [htp];exact HZZ.out)).mono fun e w' h=>⟨by rw [h.1,htp,hck],h.2⟩
  have HK1:RowKit.Hid (∀ X,Below wr.heap.size wr X→Calls Tryz.prog 38 #[.agg #[.int .i64 o1,.int .i64 n1,.int .i64 m1,.slice a1 l1 c1]] X fun e w'=>e=.returned (.int .i64 bk)∧Below X.heap.size X w'):=hid fun X hX=>(Back_all (TmM.mk o1 n1 m1 a1 l1 c1 k1) X (HTO.out.beh hX)).mono fun e w' h=>⟨by rw [h.1,htp,hbk],h.2⟩
  have HK2:RowKit.Hid (∀ X,Below wr.heap.size wr X→Calls Tryz.prog 42 #[.agg #[.int .i64 o1,.int .i64 n1,.int .i64 m1,.slice a1 l1 c1]] X fun e w'=>e=.returned (.int .i64 bk)∧Below X.heap.size X w'):=hid fun X hX=>(rBack_all (TmM.mk o1 n1 m1 a1 l1 c1 k1) X (HTO.out.beh hX) (by rw [htp];exact HZZ.out)).mono fun e w' h=>⟨by rw [h.1,htp,hbk],h.2⟩
  have HS1:RowKit.Hid (∀ X,Below wr.heap.size wr X→Calls Tryz.prog 37 #[.agg #[.int .i64 o1,.int .i64 n1,.int .i64 m1,.slice a1 l1 c1],.agg #[.int .i64 o3,.int .i64 n3,.int .i64 m3,.slice a3 l3 c3]] X fun e w'=>e=.returned (.bool sb)∧Below X.heap.size X w'):=hid fun X hX=>(same_all (TmM.mk o1 n1 m1 a1 l1 c1 k1) (TmM.mk o3 n3 m3 a3 l3 c3 k3) X (HTO.out.beh hX) (HBO.out.beh hX)).mono fun e w' h=>⟨by rw [h.1,htp,hbp,hsb],h.2⟩
  have HS2:RowKit.Hid (∀ X,Below wr.heap.size wr X→Calls Tryz.prog 43 #[.agg #[.int .i64 o1,.int .i64 n1,.int .i64 m1,.slice a1 l1 c1],.agg #[.int .i64 o3,.int .i64 n3,.int .i64 m3,.slice a3 l3 c3]] X fun e w'=>e=.returned (.bool sb)∧Below X.heap.size X w'):=hid fun X hX=>(rsame_tm (TmM.mk o1 n1 m1 a1 l1 c1 k1) (TmM.mk o3 n3 m3 a3 l3 c3 k3) X (HTO.out.beh hX) (HBO.out.beh hX)).mono fun e w' h=>⟨by rw [h.1,htp,hbp,hsb],h.2⟩
  have HS3:RowKit.Hid (∀ X,Below wr.heap.size wr X→Calls Tryz.prog 37 #[.agg #[.int .i64 o1,.int .i64 n1,.int .i64 m1,.slice a1 l1 c1],.agg #[.int .i64 o1,.int .i64 n1,.int .i64 m1,.slice a1 l1 c1]] X fun e w'=>e=.returned (.bool true)∧Below X.heap.size X w'):=hid fun X hX=>(same_all (TmM.mk o1 n1 m1 a1 l1 c1 k1) (TmM.mk o1 n1 m1 a1 l1 c1 k1) X (HTO.out.beh hX) (HTO.out.beh hX)).mono fun e w' h=>⟨by rw [h.1,htp,hss],h.2⟩
  clear htp hbp hck hbk hpv hsb hss HTO HZZ HBO HR HL
  go_upto_region 16 with (first
   | (refine wpList_load_mid rfl 24 (.tmp 66) rfl gt (k * 4) (by simp [go_sem]) [.int .i64 o1,.int .i64 n1,.int .i64 m1,.slice a1 l1 c1] _ HRG.out Tryz.underlying24 rfl tmInfo ?_)
   | (refine st_new rfl 24 (.tmp 15) (.tmp 67) rfl #[.int .i64 o1,.int .i64 n1,.int .i64 m1,.slice a1 l1 c1] _ _ rfl rfl tmInfo rfl (tm_one _ _ _ _ _ _) ?_)
   | (refine wpList_load_row rfl 24 (.tmp 15) rfl wr.heap.size rfl _ #[.int .i64 o1,.int .i64 n1,.int .i64 m1,.slice a1 l1 c1] _ _ (Blk.new _ _ _) Tryz.underlying24 rfl tmInfo ?_)
   | (refine wpList_load_row rfl 24 (.tmp 15) rfl wr.heap.size rfl _ #[.int .i64 o1,.int .i64 n1,.int .i64 m1,.slice a1 l1 c1] _ _ BX.out Tryz.underlying24 rfl tmInfo ?_)
   | (go_at_call 34;(with_reducible refine (HP1.out _ Bw.out).mono ?_);rintro e v1 ⟨rfl,h1⟩;have BX:=hid ((Blk.new wr 24 #[.int .i64 o1,.int .i64 n1,.int .i64 m1,.slice a1 l1 c1]).below h1);have V:RowKit.Hid (Below wr.heap.size wr v1):=hid (btr Bw.out h1);clear h1)
   | (go_at_call 39;(with_reducible refine (HP2.out _ V.out).mono ?_);rintro e v2 ⟨rfl,h1⟩;have BX:=hid (BX.out.below h1);have V:RowKit.Hid (Below wr.heap.size wr v2):=hid (btr V.out h1);clear h1))
  have BY:=hid (HBL.out.below V.out)
  obtain ⟨gX,hgX⟩:∃ g,wr.heap.size=g:=⟨_,rfl⟩
  rw [hgX] at BX ⊢
  clear hgX HBL HRG HP1 HP2
  go_region_held3 (fun w'=>w'.cell? ⟨gX,0,none⟩=some (.int .i64 o1)∧w'.cell? ⟨gX,1,none⟩=some (.int .i64 n1)∧w'.cell? ⟨gX,2,none⟩=some (.int .i64 m1)∧w'.cell? ⟨gX,3,none⟩=some (.slice a1 l1 c1)∧w'.cell? ⟨g3+1,0,none⟩=some (.int .i64 o3)∧w'.cell? ⟨g3+1,1,none⟩=some (.int .i64 n3)∧w'.cell? ⟨g3+1,2,none⟩=some (.int .i64 m3)∧w'.cell? ⟨g3+1,3,none⟩=some (.slice a3 l3 c3)) (with_reducible first | exact at8 BX.out BY.out | exact at8 BX.out.drew BY.out.drew)
   (first
    | (go_at_call 40;(with_reducible refine (HC1.out _ (by first | exact V.out | exact bdr V.out)).mono ?_);rintro e vv ⟨rfl,h1⟩;have BX:RowKit.Hid (Blk vv gX 24 #[.int .i64 o1,.int .i64 n1,.int .i64 m1,.slice a1 l1 c1]):=hid (by first | exact BX.out.below h1 | exact BX.out.drew.below h1);have BY:RowKit.Hid (Blk vv (g3+1) 24 #[.int .i64 o3,.int .i64 n3,.int .i64 m3,.slice a3 l3 c3]):=hid (by first | exact BY.out.below h1 | exact BY.out.drew.below h1);have V:RowKit.Hid (Below wr.heap.size wr vv):=hid (by first | exact btr V.out h1 | exact btr (bdr V.out) h1);clear h1)
    | (go_at_call 41;(with_reducible refine (HC2.out _ (by first | exact V.out | exact bdr V.out)).mono ?_);rintro e vv ⟨rfl,h1⟩;have BX:RowKit.Hid (Blk vv gX 24 #[.int .i64 o1,.int .i64 n1,.int .i64 m1,.slice a1 l1 c1]):=hid (by first | exact BX.out.below h1 | exact BX.out.drew.below h1);have BY:RowKit.Hid (Blk vv (g3+1) 24 #[.int .i64 o3,.int .i64 n3,.int .i64 m3,.slice a3 l3 c3]):=hid (by first | exact BY.out.below h1 | exact BY.out.drew.below h1);have V:RowKit.Hid (Below wr.heap.size wr vv):=hid (by first | exact btr V.out h1 | exact btr (bdr V.out) h1);clear h1)
    | (go_at_call 38;(with_reducible refine (HK1.out _ (by first | exact V.out | exact bdr V.out)).mono ?_);rintro e vv ⟨rfl,h1⟩;have BX:RowKit.Hid (Blk vv gX 24 #[.int .i64 o1,.int .i64 n1,.int .i64 m1,.slice a1 l1 c1]):=hid (by first | exact BX.out.below h1 | exact BX.out.drew.below h1);have BY:RowKit.Hid (Blk vv (g3+1) 24 #[.int .i64 o3,.int .i64 n3,.int .i64 m3,.slice a3 l3 c3]):=hid (by first | exact BY.out.below h1 | exact BY.out.drew.below h1);have V:RowKit.Hid (Below wr.heap.size wr vv):=hid (by first | exact btr V.out h1 | exact btr (bdr V.out) h1);clear h1)
    | (go_at_call 42;(with_reducible refine (HK2.out _ (by first | exact V.out | exact bdr V.out)).mono ?_);rintro e vv ⟨rfl,h1⟩;have BX:RowKit.Hid (Blk vv gX 24 #[.int .i64 o1,.int .i64 n1,.int .i64 m1,.slice a1 l1 c1]):=hid (by first | exact BX.out.below h1 | exact BX.out.drew.below h1);have BY:RowKit.Hid (Blk vv (g3+1) 24 #[.int .i64 o3,.int .i64 n3,.int .i64 m3,.slice a3 l3 c3]):=hid (by first | exact BY.out.below h1 | exact BY.out.drew.below h1);have V:RowKit.Hid (Below wr.heap.size wr vv):=hid (by first | exact btr V.out h1 | exact btr (bdr V.out) h1);clear h1)
    | (go_at_call 37;(with_reducible refine (HS1.out _ (by first | exact V.out | exact bdr V.out)).mono ?_);rintro e vv ⟨rfl,h1⟩;have BX:RowKit.Hid (Blk vv gX 24 #[.int .i64 o1,.int .i64 n1,.int .i64 m1,.slice a1 l1 c1]):=hid (by first | exact BX.out.below h1 | exact BX.out.drew.below h1);have BY:RowKit.Hid (Blk vv (g3+1) 24 #[.int .i64 o3,.int .i64 n3,.int .i64 m3,.slice a3 l3 c3]):=hid (by first | exact BY.out.below h1 | exact BY.out.drew.below h1);have V:RowKit.Hid (Below wr.heap.size wr vv):=hid (by first | exact btr V.out h1 | exact btr (bdr V.out) h1);clear h1)
    | (go_at_call 43;(with_reducible refine (HS2.out _ (by first | exact V.out | exact bdr V.out)).mono ?_);rintro e vv ⟨rfl,h1⟩;have BX:RowKit.Hid (Blk vv gX 24 #[.int .i64 o1,.int .i64 n1,.int .i64 m1,.slice a1 l1 c1]):=hid (by first | exact BX.out.below h1 | exact BX.out.drew.below h1);have BY:RowKit.Hid (Blk vv (g3+1) 24 #[.int .i64 o3,.int .i64 n3,.int .i64 m3,.slice a3 l3 c3]):=hid (by first | exact BY.out.below h1 | exact BY.out.drew.below h1);have V:RowKit.Hid (Below wr.heap.size wr vv):=hid (by first | exact btr V.out h1 | exact btr (bdr V.out) h1);clear h1)
    | (go_at_call 37;(with_reducible refine (HS3.out _ (by first | exact V.out | exact bdr V.out)).mono ?_);rintro e vv ⟨rfl,h1⟩;have BX:RowKit.Hid (Blk vv gX 24 #[.int .i64 o1,.int .i64 n1,.int .i64 m1,.slice a1 l1 c1]):=hid (by first | exact BX.out.below h1 | exact BX.out.drew.below h1);have BY:RowKit.Hid (Blk vv (g3+1) 24 #[.int .i64 o3,.int .i64 n3,.int .i64 m3,.slice a3 l3 c3]):=hid (by first | exact BY.out.below h1 | exact BY.out.drew.below h1);have V:RowKit.Hid (Below wr.heap.size wr vv):=hid (by first | exact btr V.out h1 | exact btr (bdr V.out) h1);clear h1)
    | fail)
  all_goals
   go_wp2
   go_roundw
   case rel=>exact ⟨k+1,by omega,by go_num,by first | exact btr HB.out V.out | exact btr HB.out (bdr V.out)⟩
   case measure=>simp [intOf];omega
 obtain rfl:k=3:=by omega
 clear hlt hk
 obtain ⟨bp,hbp⟩:∃ p,(TmM.mk o3 n3 m3 a3 l3 c3 k3).pl=p:=⟨_,rfl⟩
 have hchk:chkT bp=0:=by rw [← hbp];exact HR.out.bchk
 have HCHK:=hid hchk
 have hfm:=(chkT_zero hchk).2
 have HSW:=hid (Tm.words_small bp hfm)
 have hw120:bp.words.length≤120:=by have:=Tm.words_len bp;have:=(chkT_zero hchk).1;omega
 have hw1:1≤bp.words.length:=by obtain ⟨l,e⟩:=Tm.words_cons bp;rw [e];simp
 have HP:RowKit.Hid (∀ X,Below wr.heap.size wr X→Calls Tryz.prog 39 #[.agg #[.int .i64 o3,.int .i64 n3,.int .i64 m3,.slice a3 l3 c3]] X fun e w'=>e=.returned (.tuple #[.string (joinW bp.words),.int .i64 0])∧Below X.heap.size X w'):=hid fun X hX=>(rPrint_all (TmM.mk o3 n3 m3 a3 l3 c3 k3) X (HR.out.bok.beh hX) HR.out.bz).mono fun e w' h=>⟨by rw [h.1,hbp,printV_ok hchk,hchk],h.2⟩
 have HBL:=hid HR.out.bl
 dsimp only [encTm] at HBL
 have HTP:=hid HR.out.tape
 have HBW:=hid HR.out.below
 clear hbp HL HR HB
 have HFI:=hid fun X (hX:Below wr.heap.size wr X)=>fieldsW_any bp hchk X (TabIs_below (g:=0) (by kernel_rfl) HTAB.out (btr HBW.out hX))
 obtain ⟨gl,hgl⟩:∃ l,bp.words=l:=⟨_,rfl⟩
 rw [hgl] at HFI HP HSW hw120 hw1
 obtain ⟨n0,hn0⟩:∃ n,gl.length=n+1:=⟨gl.length - 1,by omega⟩
 rw [hn0] at HFI
 have HN0:=hid hn0
 have LG:RowKit.Hid ((strCells gl).length=(n0+1) * 1):=hid (by rw [strCells,List.length_map,hn0];omega)
 have hn120:n0+1≤120:=by omega
 clear hgl hchk hfm hn0 hw120 hw1
 go_upto_region 22 with (first
  | (refine wpList_load_row rfl 24 (.tmp 13) rfl (g3+1) rfl _ #[.int .i64 o3,.int .i64 n3,.int .i64 m3,.slice a3 l3 c3] _ _ HBL.out Tryz.underlying24 rfl tmInfo ?_)
  | (go_at_call 39;(with_reducible refine (HP.out _ (Below.refl _ _)).mono ?_);rintro e v1 ⟨rfl,h1⟩;have V1:RowKit.Hid (Below wr.heap.size wr v1):=h1;clear h1)
  | (go_at_call 36;(with_reducible refine (HFI.out _ V1.out).mono ?_);rintro e v2 ⟨rfl,h1⟩;subst h1)
  | (at_builtin;refine app_list elStr rfl _ _ rfl (v1.heap.size+1) (.slice (some ⟨v1.heap.size+1,0,none⟩) 0 0) 0 [] rfl (own_lit0 (t:=9) (Blk.fresh (by simp)) (Nat.le_refl _)) _ (n0+1) _ (strCells gl) rfl (vw_blk ((Blk.new v1 9 (strCells gl).toArray).alloc _)) (fun e=>by cases e) LG.out (oneC_str _) (by omega) (by simp) ?_;intro v3 w4 hown hg hv;have HO:RowKit.Hid (w4.ownsRow (v1.heap.size+1) 9 1 v3 (n0+1) (strCells gl)):=hid (by simpa using hown);have GB:RowKit.Hid (Blk w4 v1.heap.size 9 (strCells gl).toArray):=hid (blk_grown ((Blk.new v1 9 (strCells gl).toArray).alloc _) hg (fun g e=>by simp [Value.ownBlock] at e;omega));have B14:RowKit.Hid (Below v1.heap.size v1 w4):=hid (below_gr (bal (bal (Below.refl _ _) _) _) hg (fun g e=>by simp [Value.ownBlock] at e;omega));clear hown hg hv))
 obtain ⟨gb,cb,rfl,hcb1,hcb2,hgb1,hgb2⟩:=own_some HO.out
 obtain ⟨gg,hgg⟩:∃ g,v1.heap.size=g:=⟨_,rfl⟩
 rw [hgg] at HO GB hgb1 ⊢
 have B4:=hid (btr V1.out B14.out)
 have T4:=hid (HTP.out.below B4.out)
 have y4:=B14.out.size
 have yb4:=HTP.out.lt
 have yv:=V1.out.size
 have W4:=hid (btr HBW.out B4.out)
 have ygT:w.heap.size≤gT:=by omega
 have hgB:=GB.out.lt
 have hggT:gT<gg:=by omega
 rw [hgg] at y4 yv
 clear hgg HP HFI HBL HTP V1
 obtain ⟨p,hp,hpl⟩:∃ p:Nat,modI bye ((n0:Int)+1)=p∧p<n0+1:=⟨(modI bye ((n0:Int)+1)).toNat,by have:=modI_lo bye ((n0:Int)+1) (by omega);omega,by have:=modI_lo bye ((n0:Int)+1) (by omega);have:=modI_hi bye ((n0:Int)+1) (by omega);omega⟩
 have HM1:=hid fun X=>mod_any bye ((n0:Int)+1) X (by omega) (by omega)
 rw [hp] at HM1
 clear hp
 have ip:(p:Int)<(n0:Int)+1:=by omega
 obtain ⟨sp,spc,spf,spg,spb⟩:=own_there1 HO.out hpl
 have SPC:=hid spc;have SPF:=hid spf
 clear spc spf spb
 go_upto_region 23 with (first
  | (go_at_call 17;(with_reducible refine (HM1.out _).mono ?_);rintro e vm ⟨rfl,hvm⟩;have hvm2:=hvm.symm;subst hvm2)
  | (go_at_call 16;(with_reducible refine (next_any gT 10 _ (T4.out.alloc _) (by decide) (by decide)).mono ?_);rintro e w6 ⟨r,r0,r1,rfl,hs6⟩;obtain ⟨q,rfl⟩:∃ q:Nat,r=(q:Int):=⟨r.toNat,by omega⟩;have S6:=hid hs6;have iq:(q:Int)<10:=r1;have q10:q<10:=(by omega);obtain ⟨sq,hsq1,hsq2⟩:=ten_at q q10;have SQ2:=hid hsq2;have zq:w6.cell? ⟨w4.heap.size,q,none⟩=some (.string sq):=sc1 hs6 ((Blk.cell (Blk.new w4 9 (strCells tenL).toArray) q).trans hsq1) (by omega);have zp:w6.cell? ⟨gb,p,none⟩=some (.string sp):=sc1 hs6 (bc1 (bal (Below.refl _ _) _) SPC.out) (by omega);have fp:w6.frozen? ⟨gb,p,none⟩=false:=sf1 hs6 (bc1 (bal (Below.refl _ _) _) SPC.out) (bf1 (bal (Below.refl _ _) _) SPC.out SPF.out) (by omega);have y6:=hs6.size;clear hs6 r0 r1 hsq1 hsq2))
 have y45:w4.heap.size+1≤w6.heap.size:=by simpa using y6
 have S46:RowKit.Hid (Steps1 gT w4 w6):=hid (sts (Steps1.of_below T4.out (bal (Below.refl _ _) _)) S6.out)
 have BW6:RowKit.Hid (Below w.heap.size w w6):=hid (bos W4.out ygT S46.out)
 have HO6:=hid (own_step HO.out S46.out (by omega))
 have GB6:=hid (GB.out.step S46.out (by omega))
 have BAD:=hid (own_word sq HO6.out hpl)
 obtain ⟨W6,hW6⟩:∃ X,w6.setCell ⟨gb,p,none⟩ (.string sq)=X:=⟨_,rfl⟩
 have BW:RowKit.Hid (Below w.heap.size w W6):=hid (by rw [← hW6];exact bst BW6.out _ _ _ (by omega))
 have GBW:RowKit.Hid (Blk W6 gg 9 (strCells gl).toArray):=hid (by
  rw [← hW6]
  exact GB6.out.far _ _ _ (by omega))
 rw [hW6] at BAD ⊢
 clear hW6 S6 S46 BW6 HO6 GB6 HO GB zq zp fp T4 W4 SPC SPF
 have HWD:RowKit.Hid (WdL W6 wa wn wq ws):=hid ⟨HWS.out.below BW.out,HSP.out,by have:=HWS.out.len;omega,HSZ.out⟩
 obtain ⟨p2,hp2,hpl2⟩:∃ p:Nat,modI bye ((n0:Int)+1+1)=p∧p≤n0+1:=⟨(modI bye ((n0:Int)+1+1)).toNat,by have:=modI_lo bye ((n0:Int)+1+1) (by omega);omega,by have:=modI_lo bye ((n0:Int)+1+1) (by omega);have:=modI_hi bye ((n0:Int)+1+1) (by omega);omega⟩
 have HM2:=hid fun X=>mod_any bye ((n0:Int)+1+1) X (by omega) (by omega)
 rw [hp2] at HM2
 clear hp2
 have ip2:(p2:Int)≤(n0:Int)+1:=by omega
 have ip0:(0:Int)≤(p2:Int):=by omega
 have HAN:RowKit.Hid (wa=none→wn=0):=hid fun e=>by
  have hl:=HWS.out.len
  cases hws:ws with
  | nil=>rw [hws] at hl;exact hl.symm
  | cons s r=>obtain ⟨_,_,e2,_⟩:=HWS.out.vw 0 (.string s) (by rw [hws];rfl);rw [e] at e2;cases e2
 have LW:RowKit.Hid ((strCells ws).length=wn * 1):=hid (by rw [strCells,List.length_map,HWS.out.len];omega)
 have HSG:RowKit.Hid (∀ s ∈ gl,s.size≤1000):=hid fun s hs=>by have:=HSW.out s hs;omega
 have hgbW:gb ≠ gg:=by omega
 clear HWS HSP HSW HTAB
 go_upto_region 23 with fail
 go_cut [155,156,157] (fun s155 s156 s157 wx=>∃ (gv:Nat) (vs:Array Value),s155=.slice (some ⟨gv,0,none⟩) 8 8∧s156=.int .i64 8∧s157=.int .i64 0∧Blk wx gv 75 vs∧(∀ k,k<8→∃ a n c l,vs[k]? = some (.slice a n c)∧WdL wx a n c l)∧Below w.heap.size w wx)
 case first =>
  go_wp2_with (first
   | (at_builtin;refine app_list elStr rfl _ _ rfl W6.heap.size (.slice (some ⟨W6.heap.size,0,none⟩) 0 0) 0 [] rfl (own_lit0 (t:=9) (Blk.new W6 _ _) (Nat.le_refl _)) _ (n0+1) _ (strCells gl) rfl (vw_blk (GBW.out.alloc _)) (fun e=>by cases e) LG.out (oneC_str _) (by omega) (by simp) ?_;intro v7 w7 hown hg hv;have HO7:RowKit.Hid (w7.ownsRow W6.heap.size 9 1 v7 (n0+1) (strCells gl)):=hid (by simpa using hown);have B67:RowKit.Hid (Below W6.heap.size W6 w7):=hid (below_gr (bal (Below.refl _ _) _) hg (fun g e=>by simp [Value.ownBlock] at e;omega));have y67:=B67.out.size;clear hown hg hv)
   | (at_builtin;refine app_list elStr rfl _ _ rfl W6.heap.size _ (n0+1) (strCells gl) rfl HO7.out _ wn _ (strCells ws) rfl (HWD.out.v.vw.below B67.out) HAN.out LW.out (oneC_str _) (by omega) y67 ?_;intro v8 w8 hown hg hv;have HO8:RowKit.Hid (w8.ownsRow W6.heap.size 9 1 v8 (n0+1+wn) (strCells (gl++ws))):=hid (by rw [strCells,List.map_append];exact hown);have B68:RowKit.Hid (Below W6.heap.size W6 w8):=hid (below_gr B67.out hg (own_ge HO7.out));obtain ⟨a8,c8,rfl,q81,q82,q83⟩:=own_form hown;have Q83:=hid q83;have y68:=B68.out.size;clear hown hg hv q83)
   | (go_at_call 17;(with_reducible refine (HM2.out _).mono ?_);rintro e vm ⟨rfl,hvm⟩;have hvm2:=hvm.symm;subst hvm2))
  go_meet
  case rel =>
   have N8:Below w8.heap.size w8 ((((w8.alloc (.cells (strCells lit1).toArray 9)).alloc (.cells (strCells lit2).toArray 9)).alloc (.cells (strCells lit3).toArray 9)).alloc (.cells #[.slice wa wn wq,.slice (some ⟨gg,0,none⟩) (n0+1) (n0+1),.slice (some ⟨gb,0,none⟩) (n0+1) cb,.slice a8 (n0+1+wn) c8,.slice (some ⟨gg,0,none⟩) p2 (n0+1),.slice (some ⟨w8.heap.size,0,none⟩) 3 3,.slice (some ⟨w8.heap.size+1,0,none⟩) 2 2,.slice (some ⟨w8.heap.size+2,0,none⟩) 2 2] 75)):=bal (bal (bal (bal (Below.refl _ _) _) _) _) _
   have N6:=hid (btr B68.out N8)
   have GW:WsV _ (some ⟨gg,0,none⟩) (n0+1) (n0+1) gl:=WsV.blk (GBW.out.below N6.out) rfl HN0.out (by omega)
   have hlg:gl.length=n0+1:=HN0.out
   have hlw:ws.length=wn:=HWD.out.v.len
   refine ⟨_,_,rfl,rfl,rfl,Blk.fresh (by simp),?_,btr BW.out N6.out⟩
   intro k hk
   rcases k with _ | _ | _ | _ | _ | _ | _ | _ | k
   ·exact ⟨_,_,_,ws,rfl,HWD.out.below N6.out⟩
   ·exact ⟨_,_,_,gl,rfl,GW,.inr ⟨_,_,rfl⟩,by omega,HSG.out⟩
   ·refine ⟨_,_,_,gl.set p sq,rfl,BAD.out.below N6.out,.inr ⟨_,_,rfl⟩,by rw [List.length_set];omega,fun s hs=>?_⟩
    rcases List.mem_or_eq_of_mem_set hs with h | rfl
    ·exact HSG.out s h
    ·exact SQ2.out
   ·refine ⟨_,_,_,gl++ws,rfl,(WsV.of_own HO8.out).below N8,?_,by rw [List.length_append];omega,fun s hs=>?_⟩
    ·rcases Q83.out with ⟨h,-⟩ | ⟨g,h,-⟩
     ·exact .inl h
     ·exact .inr ⟨_,_,h⟩
    ·rcases List.mem_append.1 hs with h | h
     ·exact HSG.out s h
     ·exact HSZ.out s h
   ·exact ⟨_,_,_,gl.take p2,rfl,GW.cut (by omega),.inr ⟨_,_,rfl⟩,by rw [List.length_take];omega,fun s hs=>HSG.out s (List.mem_of_mem_take hs)⟩
   ·exact ⟨_,_,_,lit1,rfl,WsV.blk ((((Blk.new w8 _ _).alloc _).alloc _).alloc _) rfl rfl (by decide),.inr ⟨_,_,rfl⟩,by decide,by decide⟩
   ·exact ⟨_,_,_,lit2,rfl,WsV.blk (((Blk.fresh (by simp)).alloc _).alloc _) rfl rfl (by decide),.inr ⟨_,_,rfl⟩,by decide,by decide⟩
   ·exact ⟨_,_,_,lit3,rfl,WsV.blk ((Blk.fresh (by simp)).alloc _) rfl rfl (by decide),.inr ⟨_,_,rfl⟩,by decide,by decide⟩
   ·omega
 case rest =>
 obtain ⟨gv,vs,rfl,rfl,rfl,hB,hV,hb⟩:=hcut
 have HBV:=hid hB;have HV:=hid hV;have HBC:=hid hb
 clear hB hV hb HWD GBW BAD BW LG LW HSG SQ2 HM1 HM2 HAN HN0 HSZ HCHK
 go_wp2
 go_loopw [157] (fun v wr=>∃ k:Nat,k≤8∧v=.int .i64 k∧Below wc.heap.size wc wr) (fun v _=>9 - (intOf v).toNat)
 case atStart=>exact ⟨0,by decide,rfl,Below.refl _ _⟩
 case round =>
 obtain ⟨k,hk,rfl,hb⟩:=hrel
 have HB:=hid hb
 clear hb
 have HBB:=hid (btr HBC.out HB.out)
 by_cases hlt:k<8
 case neg =>
  obtain rfl:k=8:=by omega
  go_wp2_with (go_at_call 10;refine (awake_any _).mono ?_;rintro e w2 ⟨rfl,hb2⟩;have HB2:=hid (btr HBB.out hb2);clear hb2)
  go_ret
  exact ⟨rfl,HB2.out⟩
 obtain ⟨a,n,c,l,hv,hl⟩:=HV.out k hlt
 have HW:=hid (hl.below HB.out)
 have zk:wr.cell? ⟨gv,k,none⟩=some (.slice a n c):=bc1 HB.out ((HBV.out.cell k).trans hv)
 have HNR:=hid (HNW.out.below HBB.out)
 have HP1:=hid fun X (hX:Below wr.heap.size wr X)=>parseV l a n c X (HW.out.v.below hX) HW.out.sp HW.out.few HW.out.small (HNR.out.below hX)
 have HP2:=hid fun X (hX:Below wr.heap.size wr X)=>rparse_all l a n c X (HW.out.v.below hX) HW.out.few
 have HSML:=hid HW.out.small;have HFEW:=hid HW.out.few
 clear hv hl HW HBV HV
 go_upto_region 28 with (first
  | (go_at_call 35;(with_reducible refine (HP1.out _ (Below.refl _ _)).mono ?_);rintro e v1 ⟨⟨o1,n1,m1,a1,l1,c1,k1⟩,ar1,nr1,cr1,rs1,er1,rfl,hp,hok,hvw,hl,hc,hm,hb⟩;have PA:=hid hp;have OK1:=hid hok;have VW1:=hid hvw;have HL1:=hid hl;have HC1:=hid hc;have V1:RowKit.Hid (Below wr.heap.size wr v1):=hid hb;dsimp only [encTm];clear hp hok hvw hl hc hm hb)
  | (refine st_new rfl 24 (.tmp 26) (.tmp 164) rfl #[.int .i64 o1,.int .i64 n1,.int .i64 m1,.slice a1 l1 c1] _ _ rfl rfl tmInfo rfl (tm_one _ _ _ _ _ _) ?_)
  | (go_at_call 44;(with_reducible refine (HP2.out _ (bal V1.out _)).mono ?_);rintro e v2 ⟨⟨o2,n2,m2,a2,l2,c2,k2⟩,ar2,nr2,cr2,rs2,er2,rfl,hp,hok,hvw,hl,hc,hm,hb⟩;have PB:=hid hp;have OK2:=hid hok;have VW2:=hid hvw;have HL2:=hid hl;have HC2:=hid hc;have BX1:=hid ((Blk.new v1 24 #[.int .i64 o1,.int .i64 n1,.int .i64 m1,.slice a1 l1 c1]).below hb);have V12:RowKit.Hid (Below v1.heap.size v1 v2):=hid (btr (bal (Below.refl _ _) _) hb);dsimp only [encTm];clear hp hok hvw hl hc hm hb)
  | (refine st_new rfl 24 (.tmp 29) (.tmp 170) rfl #[.int .i64 o2,.int .i64 n2,.int .i64 m2,.slice a2 l2 c2] _ _ rfl rfl tmInfo rfl (tm_one _ _ _ _ _ _) ?_))
 obtain ⟨e1,rfl,rfl⟩:=PA.out.uniq PB.out
 obtain rfl:nr1=nr2:=by rw [← HL1.out,← HL2.out]
 obtain ⟨X2,hX2⟩:∃ X,v2.alloc (.cells #[.int .i64 o2,.int .i64 n2,.int .i64 m2,.slice a2 l2 c2] 24)=X:=⟨_,rfl⟩
 have N2:RowKit.Hid (Below v2.heap.size v2 X2):=hid (by rw [← hX2];exact bal (Below.refl _ _) _)
 have BX2:RowKit.Hid (Blk X2 v2.heap.size 24 #[.int .i64 o2,.int .i64 n2,.int .i64 m2,.slice a2 l2 c2]):=hid (by rw [← hX2];exact Blk.new _ _ _)
 have BX1':=hid (BX1.out.below N2.out)
 have N12:=hid (btr V12.out N2.out)
 have VX:=hid (btr V1.out N12.out)
 rw [hX2]
 have HSUF:=hid PA.out.suf
 have hfew:rs1.length≤1000:=by have:=HSUF.out.length_le;have:=HFEW.out;omega
 have hsm1:∀ s ∈ rs1,s.size≤1000:=fun s hs=>HSML.out s (HSUF.out.mem hs)
 have HRS:RowKit.Hid (Calls Tryz.prog 43 #[.agg #[.int .i64 o1,.int .i64 n1,.int .i64 m1,.slice a1 l1 c1],.agg #[.int .i64 o2,.int .i64 n2,.int .i64 m2,.slice a2 l2 c2]] X2 fun e w'=>e=.returned (.bool true)∧Below X2.heap.size X2 w'):=hid ((rsame_tm (TmM.mk o1 n1 m1 a1 l1 c1 k1) (TmM.mk o2 n2 m2 a2 l2 c2 k2) X2 (OK1.out.beh N12.out) (OK2.out.beh N2.out)).mono fun e w' h=>⟨by rw [h.1,samB_yes e1],h.2⟩)
 have HJ1:=hid fun X (hX:Below X2.heap.size X2 X)=>joinV ar1 nr1 cr1 rs1 X (VW1.out.below (btr N12.out hX)) HL1.out HC1.out hfew hsm1
 have HJ2:=hid fun X (hX:Below X2.heap.size X2 X)=>joinV ar2 nr1 cr2 rs1 X (VW2.out.below (btr N2.out hX)) HL1.out HC2.out hfew hsm1
 obtain ⟨jv,hjv⟩:∃ j,joinB rs1=j:=⟨_,rfl⟩
 rw [hjv] at HJ1 HJ2
 clear hX2 hjv hfew hsm1 HSUF HSML HFEW PA PB OK1 OK2 VW1 VW2 HL1 HL2 HC1 HC2 e1 zk HP1 HP2
 go_wp2_with (first
  | (refine wpList_load_row rfl 24 (.tmp 26) rfl v1.heap.size rfl _ #[.int .i64 o1,.int .i64 n1,.int .i64 m1,.slice a1 l1 c1] _ _ BX1'.out Tryz.underlying24 rfl tmInfo ?_)
  | (refine wpList_load_row rfl 24 (.tmp 29) rfl v2.heap.size rfl _ #[.int .i64 o2,.int .i64 n2,.int .i64 m2,.slice a2 l2 c2] _ _ BX2.out Tryz.underlying24 rfl tmInfo ?_)
  | (go_at_call 43;(with_reducible refine HRS.out.mono ?_);rintro e u1 ⟨rfl,h1⟩;have U:=hid h1;clear h1)
  | (go_at_call 45;(with_reducible refine (HJ1.out _ U.out).mono ?_);rintro e u2 ⟨rfl,h1⟩;have U:=hid (btr U.out h1);clear h1)
  | (go_at_call 45;(with_reducible refine (HJ2.out _ U.out).mono ?_);rintro e u3 ⟨rfl,h1⟩;have U:=hid (btr U.out h1);clear h1))
 go_roundw
 case rel=>exact ⟨k+1,by omega,by go_num,btr HB.out (btr VX.out U.out)⟩
 case measure=>simp [intOf];omega
end Go.Proofs.YtancajcelmhnkaaGreatDoor
