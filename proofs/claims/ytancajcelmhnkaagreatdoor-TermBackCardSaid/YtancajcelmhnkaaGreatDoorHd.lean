/- Plain Lean: the words of a term,joined,and cut again. -/
import Derived.Test.YtancajcelmhnkaaGreatDoorGz
import Derived.Lib.Fields
import Derived.Test.YtancajcelmhnkaaGreatDoorGm
import Derived.Test.YtancajcelmhnkaaGreatDoorCf
import Derived.Test.YtancajcelmhnkaaGreatDoorPevw
import Derived.Deep.DeepCutAuto
import Derived.Deep.CutBlock
import Derived.Test.YtancajcelmhnkaaGreatDoorEv2
import Derived.Test.YtancajcelmhnkaaGreatDoorHc
import Derived.Test.YtancajcelmhnkaaGreatDoorPrs
namespace Go.Proofs.YtancajcelmhnkaaGreatDoor
set_option linter.unusedVariables false
set_option linter.unusedSimpArgs false
def IsW (s : ByteArray) : Prop:=s.data.toList ≠ []∧∀ b ∈ s.data.toList,Lib.isSp b = false
theorem go_word (l : List UInt8) : ∀ (cur rest : List UInt8),(∀ b ∈ l,Lib.isSp b = false)→Lib.fieldsGo cur (l ++ rest) = Lib.fieldsGo (cur ++ l) rest:=by
  induction l with
  | nil=>intro cur rest _;simp
  | cons b l ih =>
    intro cur rest h
    have hb:=h b List.mem_cons_self
    rw [List.cons_append,Lib.fieldsGo,hb]
    simp only [Bool.false_eq_true,if_false]
    rw [ih _ _ fun x hx=>h x (List.mem_cons_of_mem _ hx),List.append_assoc]
    rfl
theorem joinW_list (a b : ByteArray) (l : List ByteArray) : (joinW (a :: b :: l)).data.toList = a.data.toList ++ (32 :: (joinW (b :: l)).data.toList):=by
  show ((a ++ (⟨#[32]⟩ : ByteArray)) ++ joinW (b :: l)).data.toList = _
  simp [ByteArray.data_append]
theorem fields_join : ∀ ws : List ByteArray,(∀ s ∈ ws,IsW s)→Lib.fields (joinW ws).data.toList = ws.map fun s=>s.data.toList
  | [],_=>rfl
  | [a],h=>by
    have ha:=h a (List.mem_singleton.2 rfl)
    show Lib.fieldsGo [] a.data.toList = _
    have:=go_word a.data.toList [] [] ha.2
    rw [List.append_nil,List.nil_append] at this
    rw [this,Lib.fieldsGo]
    have hne : a.data.toList.isEmpty = false:=by simpa using ha.1
    simp [hne]
  | a :: b :: l,h=>by
    have ha:=h a List.mem_cons_self
    have ih:=fields_join (b :: l) fun s hs=>h s (List.mem_cons_of_mem _ hs)
    have hne : a.data.toList.isEmpty = false:=by simpa using ha.1
    show Lib.fieldsGo [] (joinW (a :: b :: l)).data.toList = _
    rw [joinW_list,go_word _ _ _ ha.2,List.nil_append,Lib.fieldsGo]
    have h32 : Lib.isSp 32 = true:=by decide
    rw [h32]
    unfold Lib.fields at ih
    simp [hne,ih]
theorem isW_of {s : ByteArray} (h : s.data.toList ≠ []) (k : s.data.toList.all (fun b=>!Lib.isSp b) = true) : IsW s:=⟨h,fun b hb=>by simpa using List.all_eq_true.1 k b hb⟩
theorem opWord_isW (op : Int) : IsW (opWord op):=by
  unfold opWord
  repeat' split
  all_goals exact isW_of (by decide) (by decide)
theorem markWord_isW (m : Int) : IsW (markWord m):=by
  unfold markWord
  repeat' split
  all_goals exact isW_of (by decide) (by decide)
theorem dig_isW : ∀ i : Fin 100,Lib.decDigits i.val ≠ []∧(Lib.decDigits i.val).all (fun b=>!Lib.isSp b && decide (b.toNat < 128)) = true:=by decide +kernel
theorem numWord_isW {n : Int} (h0 : 0≤n) (h1 : n < 100) : IsW (numWord n):=by
  obtain ⟨h2,h3⟩:=dig_isW ⟨n.toNat,by omega⟩
  refine isW_of (by simpa [numWord] using h2) (List.all_eq_true.2 fun b hb=>?_)
  have hb' : b ∈ Lib.decDigits n.toNat:=by simpa [numWord] using hb
  have:=List.all_eq_true.1 h3 b hb'
  simp only [Bool.and_eq_true] at this
  exact this.1
def Asci (s : ByteArray) : Prop:=∀ b ∈ s.data.toList,b.toNat < 128
theorem opWord_asc (op : Int) : Asci (opWord op):=by
  unfold opWord Asci
  repeat' split
  all_goals decide
theorem markWord_asc (m : Int) : Asci (markWord m):=by
  unfold markWord Asci
  repeat' split
  all_goals decide
theorem numWord_asc {n : Int} (h0 : 0≤n) (h1 : n < 100) : Asci (numWord n):=by
  obtain ⟨h2,h3⟩:=dig_isW ⟨n.toNat,by omega⟩
  intro b hb
  have hb' : b ∈ Lib.decDigits n.toNat:=by simpa [numWord] using hb
  have:=List.all_eq_true.1 h3 b hb'
  simp only [Bool.and_eq_true,decide_eq_true_eq] at this
  exact this.2
theorem Tm.words_good (t : Tm) : t.form = true→∀ s ∈ t.words,IsW s∧Asci s:=by
  induction t using Tm.ind with
  | h op num more kids ih =>
    intro hf s hs
    rw [Tm.form_mk,Bool.and_eq_true,List.all_eq_true] at hf
    have hk : ∀ s ∈ kids.flatMap Tm.words,IsW s∧Asci s:=fun s hs=>by
      obtain ⟨k,hk,hs⟩:=List.mem_flatMap.1 hs
      exact ih k hk (hf.2 k hk) s hs
    rw [Tm.words_mk] at hs
    rcases List.mem_cons.1 hs with rfl | hs
    · exact ⟨opWord_isW op,opWord_asc op⟩
    split at hs
    · exact hk s hs
    · split at hs
      · rcases List.mem_cons.1 hs with rfl | hs
        · exact ⟨isW_of (by decide) (by decide),by unfold Asci;decide⟩
        · rcases List.mem_append.1 hs with hs | hs
          · exact hk s hs
          · rw [List.mem_singleton.1 hs];exact ⟨isW_of (by decide) (by decide),by unfold Asci;decide⟩
      · rename_i h11 h9
        have hl : kids.length = 0:=by
          have:=hf.1
          unfold formB at this
          rw [Bool.and_eq_true,Bool.and_eq_true] at this
          have h2:=this.2
          rw [if_neg (by omega)] at h2
          exact of_decide_eq_true h2
        have hn:=formB_num (hl ▸ hf.1)
        have hw : IsW (numWord num)∧Asci (numWord num):=⟨numWord_isW hn.1 hn.2,numWord_asc hn.1 hn.2⟩
        have hm : IsW (markWord num)∧Asci (markWord num):=⟨markWord_isW num,markWord_asc num⟩
        have hm2 : IsW (markWord more)∧Asci (markWord more):=⟨markWord_isW more,markWord_asc more⟩
        unfold leafWords at hs
        split at hs
        · cases hs
        · split at hs
          · rw [List.mem_singleton.1 hs];exact hm
          · split at hs
            · rcases List.mem_cons.1 hs with rfl | hs
              · exact hw
              · rw [List.mem_singleton.1 hs];exact hm2
            · rw [List.mem_singleton.1 hs];exact hw
theorem joinW_asc : ∀ ws : List ByteArray,(∀ s ∈ ws,Asci s)→Asci (joinW ws)
  | [],_=>fun b hb=>by cases hb
  | [a],h=>h a (List.mem_singleton.2 rfl)
  | a :: b :: l,h=>fun x hx=>by
    rw [joinW_list] at hx
    rcases List.mem_append.1 hx with hx | hx
    · exact h a List.mem_cons_self x hx
    · rcases List.mem_cons.1 hx with rfl | hx
      · decide
      · exact joinW_asc (b :: l) (fun s hs=>h s (List.mem_cons_of_mem _ hs)) x hx
end Go.Proofs.YtancajcelmhnkaaGreatDoor
namespace Go.Proofs.YtancajcelmhnkaaGreatDoor
open Go.RowKit Go.Sort Go.Shelf
set_option linter.unusedVariables false
set_option linter.unusedSimpArgs false
theorem sm_one (op num more : Int) (a : Option Addr) (n c : Nat) : (#[.int .i64 op,.int .i64 num,.int .i64 more,.slice a n c] : Array Value).all (·.oneCell') = true:=by
  rw [List.all_toArray];rfl
def SameT (t : TmM) : Prop:=∀ (u : TmM) (w : World),TmOk w t→TmOk w u→t.pl = u.pl→Calls Tryz.prog 37 #[.agg (encTm t).toArray,.agg (encTm u).toArray] w fun e w'=>e = .returned (.bool true)∧Below w.heap.size w w'
theorem en_same : Enters 37:=enters_of Tryz.func37 (by kernel_rfl) rfl
structure TmS (w : World) (a : Option Addr) (n : Nat) (l : List TmM) : Prop where
  vw : Vw w a (cellsOf encTm l)
  len : l.length = n
  ok : ∀ k ∈ l,TmOk w k
theorem TmS.below {w w' : World} {a : Option Addr} {n : Nat} {l : List TmM} (h : TmS w a n l) (hb : Below w.heap.size w w') : TmS w' a n l:=⟨h.vw.below hb,h.len,fun k hk=>(h.ok k hk).beh hb⟩
set_option maxRecDepth 100000 in
set_option maxHeartbeats 4000000 in
theorem eqfun_any (l m : List TmM) (hl : l.map TmM.pl = m.map TmM.pl) (ih : ∀ t ∈ l,SameT t) (a1 : Option Addr) (n1 c1 : Nat) (a2 : Option Addr) (c2 : Nat) (w : World) (h1 : TmS w a1 n1 l) (h2 : TmS w a2 n1 m) (hf : n1≤9223372036854775807) :
    Calls Tryz.prog 74 #[.slice a1 n1 c1,.slice a2 n1 c2,.func (.func 37) #[] #[]] w fun e w'=>e = .returned (.bool true)∧Below w.heap.size w w':=by
  have H1:=Lib.hid h1;have H2:=Lib.hid h2;have IH:=Lib.hid ih;have HL:=Lib.hid hl
  have eg:=en_same
  unfold Enters at eg
  clear h1 h2 ih hl
  go_enter Tryz.func74,Tryz.ntmps74
  go_wp2
  go_loopw [7,17] (fun _ i wr=>∃ k : Nat,k≤n1∧i = .int .i64 k∧Below w.heap.size w wr) (fun _ i _=>n1 - (intOf i).toNat)
  case atStart=>exact ⟨0,Nat.zero_le _,rfl,Below.refl _ _⟩
  case round =>
    obtain ⟨k,hk,rfl,hb⟩:=hrel
    have HB:=Lib.hid hb
    have yb:=hb.size
    clear hb
    by_cases hlt : k < n1
    · have k1 : k < l.length:=by rw [H1.out.len];exact hlt
      have k2 : k < m.length:=by rw [H2.out.len];exact hlt
      obtain ⟨b1,o1,rfl,hbl1,hrg1⟩:=H1.out.vw.range (k:=4) (fun x _=>encTm_len x) (by omega) k k1
      obtain ⟨b2,o2,rfl,hbl2,hrg2⟩:=H2.out.vw.range (k:=4) (fun x _=>encTm_len x) (by omega) k k2
      have R1:=Lib.hid (rangeAt_below hrg1 HB.out);have R2:=Lib.hid (rangeAt_below hrg2 HB.out)
      have HE : RowKit.Hid (l[k].pl = m[k].pl):=by
        show _ = _
        have e : (l.map TmM.pl)[k]? = (m.map TmM.pl)[k]?:=by rw [HL.out]
        rw [List.getElem?_map,List.getElem?_map,List.getElem?_eq_getElem k1,List.getElem?_eq_getElem k2] at e
        simpa using e
      have HC:=Lib.hid fun W' (hW' : Below wr.heap.size wr W')=>IH.out _ (List.getElem_mem k1) m[k] W' ((H1.out.ok _ (List.getElem_mem k1)).beh (btr HB.out hW')) ((H2.out.ok _ (List.getElem_mem k2)).beh (btr HB.out hW')) HE.out
      clear hrg1 hrg2 HE
      obtain ⟨t1,ht1⟩ : ∃ t1,l[k] = t1:=⟨_,rfl⟩
      obtain ⟨t2,ht2⟩ : ∃ t2,m[k] = t2:=⟨_,rfl⟩
      rw [ht1] at R1 HC
      rw [ht2] at R2 HC
      clear ht1 ht2
      obtain ⟨p0,p1,p2,p3,p4,p5,p6⟩:=t1
      obtain ⟨q0,q1,q2,q3,q4,q5,q6⟩:=t2
      dsimp only [encTm] at R1 R2 HC
      go_wp2_with (first
        | (refine wpList_load_mid rfl 24 (.tmp 20) rfl b1 (o1 + k * 4) rfl [.int .i64 p0,.int .i64 p1,.int .i64 p2,.slice p3 p4 p5] _ R1.out Tryz.underlying24 rfl tmInfo ?_)
        | (refine wpList_load_mid rfl 24 (.tmp 24) rfl b2 (o2 + k * 4) rfl [.int .i64 q0,.int .i64 q1,.int .i64 q2,.slice q3 q4 q5] _ (rangeAt_below R2.out (by (repeat (with_reducible first | exact Below.refl _ _ | refine bdr ?_ | refine bdn ?_ _ | refine bal ?_ _)))) Tryz.underlying24 rfl tmInfo ?_)
        | (refine st_new rfl 24 (.tmp 8) (.tmp 21) rfl #[.int .i64 p0,.int .i64 p1,.int .i64 p2,.slice p3 p4 p5] _ _ rfl rfl tmInfo rfl (sm_one _ _ _ _ _ _) ?_)
        | (refine st_new rfl 24 (.tmp 9) (.tmp 25) rfl #[.int .i64 q0,.int .i64 q1,.int .i64 q2,.slice q3 q4 q5] _ _ rfl rfl tmInfo rfl (sm_one _ _ _ _ _ _) ?_)
        | (refine wpList_load_row rfl 24 (.tmp 8) rfl wr.heap.size rfl _ #[.int .i64 p0,.int .i64 p1,.int .i64 p2,.slice p3 p4 p5] _ _ ((Blk.new _ _ _).alloc _) Tryz.underlying24 rfl tmInfo ?_)
        | (refine wpList_load_row rfl 24 (.tmp 9) rfl (wr.heap.size + 1) rfl _ #[.int .i64 q0,.int .i64 q1,.int .i64 q2,.slice q3 q4 q5] _ _ (Blk.fresh (by simp)) Tryz.underlying24 rfl tmInfo ?_)
        | ((first | go_at_fn 37 | go_at_call 37);go_loud (refine (HC.out _ (by (repeat (with_reducible first | exact Below.refl _ _ | refine bdr ?_ | refine bdn ?_ _ | refine bal ?_ _)))).mono ?_);rintro e w2 ⟨rfl,hb2⟩;have Q2 : RowKit.Hid (Below wr.heap.size wr w2):=btr (by (repeat (with_reducible first | exact Below.refl _ _ | refine bdr ?_ | refine bdn ?_ _ | refine bal ?_ _))) hb2;clear hb2))
      go_roundw
      case rel=>exact ⟨k + 1,by omega,by go_num,btr HB.out Q2.out⟩
      case measure=>simp [intOf];omega
    · obtain rfl : k = n1:=by omega
      go_wp2
      go_ret
      exact ⟨rfl,HB.out⟩
set_option maxRecDepth 100000 in
set_option maxHeartbeats 4000000 in
theorem same_term (t : TmM) : SameT t:=by
  induction t using TmM.ind with
  | h op num more a n c kids ih =>
    intro u w h1 h2 he
    obtain ⟨op',num',more',a',n',c',kids'⟩:=u
    rw [TmM.pl_mk,TmM.pl_mk] at he
    injection he with e1 e2 e3 e4
    subst e1;subst e2;subst e3
    have hn : n' = n:=by have:=congrArg List.length e4;rw [List.length_map,List.length_map,h1.len,h2.len] at this;exact this.symm
    subst hn
    show Calls Tryz.prog _ #[.agg #[.int .i64 op,.int .i64 num,.int .i64 more,.slice a n' c],.agg #[.int .i64 op,.int .i64 num,.int .i64 more,.slice a' n' c']] w _
    have HE:=Lib.hid fun W' (hW' : Below w.heap.size w W')=>eqfun_any kids kids' e4 ih a n' c a' c' W' ((TmS.mk h1.vw h1.len fun k hk=>h1.kid hk).below hW') ((TmS.mk h2.vw h2.len fun k hk=>h2.kid hk).below hW') h1.few
    clear h1 h2 e4 ih
    obtain ⟨W,hW⟩ : ∃ W,(w.alloc (.cells #[.int .i64 op,.int .i64 num,.int .i64 more,.slice a n' c] 24)).alloc (.cells #[.int .i64 op,.int .i64 num,.int .i64 more,.slice a' n' c'] 24) = W:=⟨_,rfl⟩
    have B1 : RowKit.Hid (Blk W w.heap.size 24 #[.int .i64 op,.int .i64 num,.int .i64 more,.slice a n' c]):=by show Blk _ _ _ _;rw [← hW];exact (Blk.new w _ _).alloc _
    have B2 : RowKit.Hid (Blk W (w.heap.size + 1) 24 #[.int .i64 op,.int .i64 num,.int .i64 more,.slice a' n' c']):=by show Blk _ _ _ _;rw [← hW];exact Blk.fresh (by simp)
    have BB : RowKit.Hid (Below w.heap.size w W):=by show Below _ _ _;rw [← hW];exact (by (repeat (with_reducible first | exact Below.refl _ _ | refine bdr ?_ | refine bdn ?_ _ | refine bal ?_ _)))
    have x0 : W.cell? ⟨w.heap.size,0,none⟩ = some (.int .i64 op):=B1.out.cell 0
    have x1 : W.cell? ⟨w.heap.size,1,none⟩ = some (.int .i64 num):=B1.out.cell 1
    have x2 : W.cell? ⟨w.heap.size,2,none⟩ = some (.int .i64 more):=B1.out.cell 2
    have x3 : W.cell? ⟨w.heap.size,3,none⟩ = some (.slice a n' c):=B1.out.cell 3
    have z0 : W.cell? ⟨w.heap.size + 1,0,none⟩ = some (.int .i64 op):=B2.out.cell 0
    have z1 : W.cell? ⟨w.heap.size + 1,1,none⟩ = some (.int .i64 num):=B2.out.cell 1
    have z2 : W.cell? ⟨w.heap.size + 1,2,none⟩ = some (.int .i64 more):=B2.out.cell 2
    have z3 : W.cell? ⟨w.heap.size + 1,3,none⟩ = some (.slice a' n' c'):=B2.out.cell 3
    go_enter Tryz.func37,Tryz.ntmps37
    go_wp2_with (go_at_call 74;refine (HE.out _ BB.out).mono ?_;rintro e w2 ⟨rfl,hb2⟩)
    go_ret
    exact ⟨rfl,btr BB.out hb2⟩
end Go.Proofs.YtancajcelmhnkaaGreatDoor
namespace Go.Proofs.YtancajcelmhnkaaGreatDoor
open Go.RowKit Go.Sort Go.Shelf
set_option linter.unusedVariables false
set_option linter.unusedSimpArgs false
theorem Tm.backs_snoc (l : List Tm) (t : Tm) (h : 0≤t.back) : Tm.backs (l ++ [t]) = max (Tm.backs l) t.back:=by
  induction l with
  | nil=>simp [Tm.backs];omega
  | cons a l ih=>rw [List.cons_append,Tm.backs,ih,Tm.backs];omega
theorem Tm.backs_nonneg (l : List Tm) : 0≤Tm.backs l:=by
  induction l with
  | nil=>simp [Tm.backs]
  | cons a l ih=>rw [Tm.backs];omega
theorem Tm.back_nonneg (t : Tm) : 0≤t.back:=by
  cases t with
  | mk op num more kids=>rw [Tm.back];have:=Tm.backs_nonneg kids;omega
def ownB (op num : Int) : Int:=if op = 6 then num - 1 else if op = 7∨op = 8 then num else 0
theorem own_few {op num more : Int} {n : Nat} (h : formB op num more n = true) : 0≤ownB op num∧ownB op num≤10∧(op = 6∨op = 7∨op = 8→0≤num∧num≤10):=by
  have hop:=formB_op h
  unfold formB at h
  unfold ownB
  rcases hop with rfl | rfl | rfl | rfl | rfl | rfl | rfl | rfl | ⟨rfl | rfl,_⟩ | ⟨rfl,_⟩ <;> simp at h ⊢ <;> omega
set_option maxRecDepth 100000 in
set_option maxHeartbeats 4000000 in
theorem back_any (t : TmM) : ∀ (w : World),TmOk w t→t.pl.form = true →
    Calls Tryz.prog 75 #[.agg (encTm t).toArray] w fun e w'=>e = .returned (.int .i64 t.pl.back)∧Below w.heap.size w w':=by
  induction t using TmM.ind with
  | h op num more a n c kids ih =>
    intro w h hf
    rw [TmM.pl_mk] at hf ⊢
    obtain ⟨hfo,hfk⟩:=form_kid hf
    rw [List.length_map] at hfo
    obtain ⟨o1,o2,o3⟩:=own_few hfo
    have hop:=formB_op hfo
    rw [Tm.back]
    show Calls Tryz.prog _ #[.agg #[.int .i64 op,.int .i64 num,.int .i64 more,.slice a n c]] w _
    have H:=Lib.hid h;have IH:=Lib.hid ih;have HFK:=Lib.hid hfk
    have HN:=Lib.hid h.len
    have hc:=h.few
    obtain ⟨W,hW⟩ : ∃ W,w.alloc (.cells #[.int .i64 op,.int .i64 num,.int .i64 more,.slice a n c] 24) = W:=⟨_,rfl⟩
    have B0 : RowKit.Hid (Blk W w.heap.size 24 #[.int .i64 op,.int .i64 num,.int .i64 more,.slice a n c]):=by show Blk _ _ _ _;rw [← hW];exact Blk.new w _ _
    have BB : RowKit.Hid (Below w.heap.size w W):=by show Below _ _ _;rw [← hW];exact (by (repeat (with_reducible first | exact Below.refl _ _ | refine bdr ?_ | refine bdn ?_ _ | refine bal ?_ _)))
    have x0 : W.cell? ⟨w.heap.size,0,none⟩ = some (.int .i64 op):=B0.out.cell 0
    have x1 : W.cell? ⟨w.heap.size,1,none⟩ = some (.int .i64 num):=B0.out.cell 1
    have x3 : W.cell? ⟨w.heap.size,3,none⟩ = some (.slice a n c):=B0.out.cell 3
    have y0:=B0.out.lt
    have HOW : RowKit.Hid (ownB op num = if op = 6 then num - 1 else if op = 7∨op = 8 then num else 0):=rfl
    obtain ⟨own,hown⟩ : ∃ own,ownB op num = own:=⟨_,rfl⟩
    rw [← show ownB op num = (if op = 6 then num - 1 else if op = 7∨op = 8 then num else 0) from rfl]
    have key : ∀ v : Value,v = .int .i64 own→v = .int .i64 (ownB op num):=fun v hv=>by rw [hv,hown]
    have HOP:=Lib.hid hop
    have HWN:=Lib.hid hown
    rw [hown] at o1 o2 ⊢
    clear h ih hf hfo hfk hop key HOW hown
    go_enter Tryz.func75,Tryz.ntmps75
    go_upto_block 0 with fail
    go_cut [3] (fun v wx=>v = .int .i64 own∧wx = W)
    case first =>
      rcases HOP.out with rfl | rfl | rfl | rfl | rfl | rfl | rfl | rfl | ⟨rfl | rfl,_⟩ | ⟨rfl,_⟩
      all_goals (try (have o4:=o3 (by decide)))
      all_goals clear o3
      all_goals go_wp2
      all_goals go_meet
      all_goals (case rel=>exact ⟨by rw [← HWN.out];simp [ownB],by first | rfl | trivial⟩)
    case rest =>
    obtain ⟨rfl,rfl⟩:=hcut
    go_wp2
    go_loopw [3,21] (fun s i wr=>∃ k : Nat,k≤n∧i = .int .i64 k∧s = .int .i64 (max own (Tm.backs ((kids.map TmM.pl).take k)))∧Below wc.heap.size wc wr) (fun _ i _=>n - (intOf i).toNat)
    case atStart=>exact ⟨0,Nat.zero_le _,rfl,by simp [Tm.backs];omega,Below.refl _ _⟩
    case round =>
      obtain ⟨k,hk,rfl,rfl,hb⟩:=hrel
      have HB:=Lib.hid hb
      have yb:=hb.size
      clear hb
      by_cases hlt : k < n
      · have hke : k < kids.length:=by rw [HN.out];exact hlt
        obtain ⟨b,off,rfl,hbl,hrg⟩:=H.out.at_ hke
        have HRG:=Lib.hid (rangeAt_below hrg (btr BB.out HB.out))
        have HSZ : RowKit.Hid (Tm.backs ((kids.map TmM.pl).take (k + 1)) = max (Tm.backs ((kids.map TmM.pl).take k)) kids[k].pl.back):=by
          show _ = _
          have hkm : k < (kids.map TmM.pl).length:=by rw [List.length_map];exact hke
          rw [List.take_succ_eq_append_getElem hkm,Tm.backs_snoc _ _ (Tm.back_nonneg _),List.getElem_map]
        have HIH:=Lib.hid fun W' (hW' : Below wr.heap.size wr W')=>IH.out _ (List.getElem_mem hke) W' ((H.out.kid (List.getElem_mem hke)).beh (btr (btr BB.out HB.out) hW')) (HFK.out _ (List.mem_map.2 ⟨_,List.getElem_mem hke,rfl⟩))
        clear hrg
        obtain ⟨kt,hkt⟩ : ∃ kt,kids[k] = kt:=⟨_,rfl⟩
        rw [hkt] at HRG HSZ HIH
        clear hkt
        obtain ⟨sz,hsz⟩ : ∃ sz,max own (Tm.backs ((kids.map TmM.pl).take k)) = sz:=⟨_,rfl⟩
        have HSZ2:=Lib.hid hsz
        rw [hsz]
        clear hsz
        obtain ⟨ks,hks⟩ : ∃ ks,kt.pl.back = ks:=⟨_,rfl⟩
        rw [hks] at HSZ HIH
        clear hks
        obtain ⟨op',num',more',a',n',c',kids'⟩:=kt
        dsimp only [encTm] at HRG HIH
        go_wp2_with (first
          | (refine wpList_load_mid rfl 24 (.tmp 23) rfl b (off + k * 4) rfl [.int .i64 op',.int .i64 num',.int .i64 more',.slice a' n' c'] _ HRG.out Tryz.underlying24 rfl tmInfo ?_)
          | (refine st_new rfl 24 (.tmp 5) (.tmp 24) rfl #[.int .i64 op',.int .i64 num',.int .i64 more',.slice a' n' c'] _ _ rfl rfl tmInfo rfl (tm_one _ _ _ _ _ _) ?_)
          | (refine wpList_load_row rfl 24 (.tmp 5) rfl wr.heap.size rfl _ #[.int .i64 op',.int .i64 num',.int .i64 more',.slice a' n' c'] _ _ (Blk.new _ _ _) Tryz.underlying24 rfl tmInfo ?_)
          | (go_at_call 75;refine (HIH.out _ (by (repeat (with_reducible first | exact Below.refl _ _ | refine bdr ?_ | refine bdn ?_ _ | refine bal ?_ _)))).mono ?_;rintro e w2 ⟨rfl,hb2⟩;have Q2 : RowKit.Hid (Below wr.heap.size wr w2):=btr (by (repeat (with_reducible first | exact Below.refl _ _ | refine bdr ?_ | refine bdn ?_ _ | refine bal ?_ _))) hb2;clear hb2))
        all_goals go_roundw
        all_goals first
          | (case rel =>
              refine ⟨k + 1,by omega,by go_num,?_,btr HB.out Q2.out⟩
              have h1:=HSZ.out;have h2:=HSZ2.out
              congr 1
              omega)
          | (case measure=>simp [intOf];omega)
      · obtain rfl : k = n:=by omega
        have e : (kids.map TmM.pl).take k = kids.map TmM.pl:=List.take_of_length_le (by rw [List.length_map];have:=HN.out;omega)
        rw [e]
        clear e
        go_wp2
        go_ret
        exact ⟨rfl,btr BB.out HB.out⟩
theorem Tm.back_le {t : Tm} : t.form = true→t.back≤10:=by
  induction t using Tm.ind with
  | h op num more kids ih =>
    intro hf
    obtain ⟨hfo,hfk⟩:=form_kid hf
    have h1:=own_few hfo
    have h2 : ∀ l : List Tm,(∀ k ∈ l,k.back≤10)→Tm.backs l≤10:=by
      intro l
      induction l with
      | nil=>intro _;simp [Tm.backs]
      | cons a l ihl=>intro h;rw [Tm.backs];have:=h a List.mem_cons_self;have:=ihl fun x hx=>h x (List.mem_cons_of_mem _ hx);omega
    have h3:=h2 kids fun k hk=>ih k hk (hfk k hk)
    rw [Tm.back]
    unfold ownB at h1
    omega
set_option maxRecDepth 100000 in
set_option maxHeartbeats 2000000 in
theorem Back_any (t : TmM) (w : World) (h : TmOk w t) (hk : chkT t.pl = 0) : Calls Tryz.prog 38 #[.agg (encTm t).toArray] w fun e w'=>e = .returned (.int .i64 t.pl.back)∧Below w.heap.size w w':=by
  have hz:=chkT_zero hk
  have HC:=Lib.hid fun W' (hW' : Below w.heap.size w W')=>check_any t W' (h.beh hW')
  have HT:=Lib.hid fun W' (hW' : Below w.heap.size w W')=>back_any t W' (h.beh hW') hz.2
  rw [hk] at HC
  obtain ⟨tb,htb⟩ : ∃ tb,(encTm t).toArray = tb:=⟨_,rfl⟩
  have TI : RowKit.Hid ((Tryz.prog.info? 24).map (·.size) = some (encTm t).toArray.size):=encTm_info t
  rw [htb] at HC HT TI ⊢
  obtain ⟨l,hl⟩ : ∃ l,t.pl.back = l:=⟨_,rfl⟩
  rw [hl] at HT ⊢
  clear h hk hz htb hl
  obtain ⟨W,hW⟩ : ∃ W,w.alloc (.cells tb 24) = W:=⟨_,rfl⟩
  have B0 : RowKit.Hid (Blk W w.heap.size 24 tb):=by show Blk _ _ _ _;rw [← hW];exact Blk.new w _ _
  have BB : RowKit.Hid (Below w.heap.size w W):=by show Below _ _ _;rw [← hW];exact (by (repeat (with_reducible first | exact Below.refl _ _ | refine bdr ?_ | refine bdn ?_ _ | refine bal ?_ _)))
  go_enter Tryz.func38,Tryz.ntmps38
  go_wp2_with (first
    | (refine wpList_load_row rfl 24 (.tmp 1) rfl w.heap.size rfl _ tb _ _ B0.out Tryz.underlying24 rfl TI.out ?_)
    | (go_at_call 40;refine (HC.out _ BB.out).mono ?_;rintro e w1 ⟨rfl,hb1⟩;have B1:=Lib.hid (B0.out.below hb1);have BB1:=Lib.hid (btr BB.out hb1);clear hb1)
    | (refine wpList_load_row rfl 24 (.tmp 1) rfl w.heap.size rfl _ tb _ _ B1.out Tryz.underlying24 rfl TI.out ?_)
    | (go_at_call 75;refine (HT.out _ BB1.out).mono ?_;rintro e w2 ⟨rfl,hb2⟩;have BB2:=Lib.hid (btr BB1.out hb2);clear hb2))
  go_ret
  exact ⟨rfl,BB2.out⟩
end Go.Proofs.YtancajcelmhnkaaGreatDoor
namespace Go.Proofs.YtancajcelmhnkaaGreatDoor
open Go.RowKit Go.Sort Go.Shelf
set_option linter.unusedVariables false
set_option linter.unusedSimpArgs false
theorem hsort_lt {l : List Rcd} (h : HSort l) : ∀ (j : Nat) (hj : j < l.length) (i : Nat) (hi : i < j),(l[i]'(by omega)).lt l[j]
  | 0,_,i,hi=>absurd hi (Nat.not_lt_zero _)
  | j + 1,hj,i,hi=>by
    have h1:=h (j + 1) hj (by omega)
    simp only [Nat.add_sub_cancel] at h1
    rcases Nat.lt_or_eq_of_le (Nat.le_of_lt_succ hi) with k | k
    · exact Rcd.lt_trans (hsort_lt h j (by omega) i k) h1
    · subst k;exact h1
theorem HistOk.filter {l : List Rcd} (h : HistOk l) (p : Rcd→Bool) : HistOk (l.filter p):=by
  have h3 : (l.filter p).Pairwise Rcd.lt:=List.Pairwise.filter p (List.pairwise_iff_getElem.2 fun i j hi hj k=>hsort_lt h.sort j hj i k)
  have h4 : (l.filter p).Pairwise fun a b=>a.year = b.year→¬ Meet a.rects b.rects:=List.Pairwise.filter p (List.pairwise_iff_getElem.2 fun i j hi hj k e m=>h.lap ⟨i,j,hj,k,e,m⟩)
  exact ⟨Nat.le_trans (List.length_filter_le _ _) h.len,fun j hj _=>⟨h.mem (List.mem_filter.1 (List.getElem_mem hj)).1,fun h=>List.pairwise_iff_getElem.1 h3 (j - 1) j (by omega) hj (by omega)⟩,fun ⟨i,j,hj,hi,e,m⟩=>List.pairwise_iff_getElem.1 h4 i j (by omega) hj hi e m⟩
def lateM (lo : Int) (l : List RcdM) : List RcdM:=l.filter fun r=>decide (lo≤r.year)
theorem lateM_pl (lo : Int) (l : List RcdM) : (lateM lo l).map RcdM.pl = (l.map RcdM.pl).filter fun r=>decide (lo≤r.year):=by
  unfold lateM
  rw [List.filter_map]
  rfl
theorem lateM_succ {lo : Int} {l : List RcdM} {k : Nat} (h : k < l.length) : lateM lo (l.take (k + 1)) = lateM lo (l.take k) ++ (if lo≤l[k].year then [l[k]] else []):=by
  unfold lateM
  rw [List.take_succ_eq_append_getElem h,List.filter_append]
  congr 1
  by_cases e : lo≤l[k].year
  · rw [if_pos e];simp [e]
  · rw [if_neg e];simp [e]
theorem lateM_len (lo : Int) (l : List RcdM) : (lateM lo l).length≤l.length:=List.length_filter_le _ _
theorem lateM_mem {lo : Int} {l : List RcdM} {r : RcdM} : r ∈ lateM lo l↔r ∈ l∧lo≤r.year:=by
  unfold lateM
  rw [List.mem_filter]
  simp
theorem KHs.late {b : Nat} {crops years : Int} {w : World} {s : Sc RcdM} (h : KHs b crops years w s) (lo : Int) {base c : Nat} {a : Option Addr} (ho : w.ownsRow base 47 3 (.slice a (lateM lo s.l).length c) (lateM lo s.l).length (cellsOf encRcd (lateM lo s.l))) (hb : b < base) :
    KHs b crops years w ⟨a,(lateM lo s.l).length,c,lateM lo s.l⟩:=by
  obtain ⟨a',c',he,hc1,hc2,hc3⟩:=own_form ho
  cases he
  have h0:=h.rws.few
  have h1:=h.rws.len
  have h2:=lateM_len lo s.l
  refine ⟨⟨vw_of_own (own_hole ho hb),rfl,by dsimp only;omega,own_nil ho⟩,⟨hc1,hc2,?_⟩,fun r hr=>h.rows r (lateM_mem.1 hr).1,?_,fun r hr=>h.can r (lateM_mem.1 hr).1,fun r hr=>h.low r (lateM_mem.1 hr).1⟩
  · intro e
    rcases hc3 with ⟨-,-,k⟩ | ⟨g,k,-⟩
    · exact k
    · dsimp only at e;rw [e] at k;cases k
  · dsimp only
    rw [lateM_pl]
    exact h.hist.filter _
theorem late_env {rc : Sc Rc} {crop : Int} {cr : Sc Crp} {hi h2 : Sc RcdM} {zo : Sc FtrM} {year day n : Int} (h : h2.l = lateM (year - n) hi.l) : Env.Late (kwP rc crop cr hi zo year day).env (kwP rc crop cr h2 zo year day).env n :=
  ⟨rfl,rfl,rfl,rfl,rfl,rfl,fun r=>by
    show r ∈ h2.l.map RcdM.pl↔(r ∈ hi.l.map RcdM.pl∧year - n≤r.year)
    rw [h,lateM_pl,List.mem_filter]
    simp⟩
theorem fieldsW_any (t : Tm) (hk : chkT t = 0) (w : World) (htab : Lib.TabIs Tryz.prog w "strings.asciiSpace" .u8 Lib.asciiSpaceTab) :
    Calls Tryz.prog 36 #[.string (joinW t.words)] w fun e w'=>e = .returned (.slice (some ⟨w.heap.size,0,none⟩) t.words.length t.words.length)∧w' = w.alloc (.cells (strCells t.words).toArray 9):=by
  have hz:=chkT_zero hk
  have hg:=Tm.words_good t hz.2
  have hsm:=Tm.words_small t hz.2
  have hlen : t.words.length≤120:=by have:=Tm.words_len t;omega
  have hsz:=joinW_size hsm
  have hf:=fields_join t.words fun s hs=>(hg s hs).1
  have ha:=joinW_asc t.words fun s hs=>(hg s hs).2
  have hm : ((Lib.fields (joinW t.words).data.toList).map fun l=>Value.string ⟨l.toArray⟩) = strCells t.words:=by
    rw [hf,List.map_map]
    rfl
  have hl : (Lib.fields (joinW t.words).data.toList).length = t.words.length:=by rw [hf,List.length_map]
  refine (Tryz.strings_Fields (joinW t.words) w (by omega) (fun j b hj=>ha b (List.mem_of_getElem? hj)) htab).mono fun e w' h=>?_
  rw [hl,hm] at h
  exact h
theorem parseW_any (t : Tm) (hk : chkT t = 0) (nb : Nat) (w : World) (hb : Blk w nb 9 (strCells t.words).toArray) :
    Calls Tryz.prog 35 #[.slice (some ⟨nb,0,none⟩) t.words.length t.words.length] w fun e w'=>∃ (tm : TmM) (a : Option Addr) (c : Nat),e = .returned (.tuple #[.agg (encTm tm).toArray,.slice a 0 c,.int .i64 0])∧tm.pl = t∧TmOk w' tm∧Below w.heap.size w w':=by
  have hz:=chkT_zero hk
  have hlen : t.words.length≤120:=by have:=Tm.words_len t;omega
  have h:=parse_any t hk [] nb 0 t.words.length w (fun i s hi=>by
    rw [List.append_nil] at hi
    rw [Nat.zero_add,hb.cell i,List.getElem?_toArray,List.getElem?_map,hi]
    rfl) (by rw [List.append_nil];exact Nat.le_refl _) (by omega)
  rw [List.append_nil] at h
  refine h.mono ?_
  rintro e w' ⟨tm,v,rfl,h1,h2,-,h3,h4⟩
  obtain ⟨a,c,rfl,-⟩:=own_form h3
  exact ⟨tm,a,c,rfl,h1,h2,h4⟩
end Go.Proofs.YtancajcelmhnkaaGreatDoor
