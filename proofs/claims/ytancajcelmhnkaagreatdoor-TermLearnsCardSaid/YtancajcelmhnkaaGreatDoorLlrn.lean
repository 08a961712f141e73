/- The law TermLearns,walked. -/
import Derived.Test.YtancajcelmhnkaaGreatDoorLev
import Derived.Test.YtancajcelmhnkaaGreatDoorEv2
import Derived.Test.YtancajcelmhnkaaGreatDoorKterm
import Derived.Test.YtancajcelmhnkaaGreatDoorAwk
import Derived.Test.YtancajcelmhnkaaGreatDoorUses
import Derived.Test.YtancajcelmhnkaaGreatDoorSqr
namespace Go.Proofs.YtancajcelmhnkaaGreatDoor
open Go.RowKit Go.Sort Go.Shelf
set_option linter.unusedVariables false
set_option linter.unusedSimpArgs false
theorem isCan_self {S : Sq} {l : List Rc} (h : IsCan S l) : IsCan (inRc l) l:=IsCan.self h
theorem less_of {l m : List Rcd} {year crop : Int} {A : Sq} (h : HAdded l year crop A m) (hA : ∀ x y,A x y→¬ ∃ r ∈ l,r.year = year∧inRc r.rects x y) : ∀ r ∈ l,∀ x y,inRc r.rects x y→∃ s ∈ m,s.year = r.year∧s.crop = r.crop∧inRc s.rects x y:=fun r hr x y hi =>
  h.all r hr x y hi fun e=>.inl fun a=>hA x y a ⟨r,hr,e,hi⟩
set_option maxRecDepth 100000 in
set_option maxHeartbeats 16000000 in
theorem learns_any (A : Option Addr) (len cap : Nat) (zs : List Int) (w : World) (hr : IsRow .i64 w A len cap zs) :
    Calls Tryz.prog 6 #[.slice A len cap] w fun e w'=>e = .returned (.bool true)∧Below w.heap.size w w':=by
  have HN:=Lib.hid (new_any A len cap zs w hr)
  clear hr
  have HT : RowKit.Hid (∀ X : World,Tape X w.heap.size→Calls Tryz.prog 18 #[.pointer (some ⟨w.heap.size,0,none⟩),.int .i64 2] X (KTP w.heap.size 2 X)):=fun X hX=>kterm_any 2 w.heap.size X hX (by decide)
  go_enter Tryz.func6,Tryz.ntmps6
  go_upto_region 5 with (first
    | (go_at_call 11;refine HN.out.mono ?_;rintro e w1 ⟨rfl,hb1,ht1⟩;have B1:=Lib.hid hb1;have T1:=Lib.hid ht1;have y1:=ht1.lt;clear hb1 ht1)
    | (go_at_call 23;refine (kworld_any w.heap.size w1 T1.out).mono ?_;rintro e w2 ⟨⟨ra,rn,rcc,rl⟩,crop,⟨ca,cn,cc,cl⟩,⟨ha,hn,hc,hl⟩,⟨za,zn,zc,zl⟩,year,rfl,hk2,hs2⟩;have K2:=Lib.hid hk2;have S2:=Lib.hid hs2;have y2:=hs2.size;clear hk2 hs2)
    | (refine st_new rfl 42 (.tmp 4) (.tmp 26) rfl #[.int .i64 0,.slice ra rn rcc,.int .i64 crop,.int .i64 0] _ _ rfl rfl lineInfo rfl (line_one _ _ _ _ _ _) ?_;obtain ⟨W2,hW2⟩ : ∃ W2,w2.alloc (.cells #[.int .i64 0,.slice ra rn rcc,.int .i64 crop,.int .i64 0] 42) = W2:=⟨_,rfl⟩;have BL2 : RowKit.Hid (Blk W2 w2.heap.size 42 #[.int .i64 0,.slice ra rn rcc,.int .i64 crop,.int .i64 0]):=(by show Blk _ _ _ _;rw [← hW2];exact Blk.new _ _ _);have S3 : RowKit.Hid (Steps1 w.heap.size w2 W2):=(by show Steps1 _ _ _;rw [← hW2];exact sal (Steps1.refl S2.out.now) _);have y3:=BL2.out.lt;rw [hW2];clear hW2)
    | (go_at_call 18;refine (HT.out W2 S3.out.now).mono ?_;rintro e w3 ⟨⟨po,pm,pq,pa,pn,pc,pk⟩,rfl,ht,hs⟩;have TP3:=Lib.hid ht;have S4:=Lib.hid hs;have y4:=hs.size;have CP:=Lib.hid (ht.chk (by decide));dsimp only [encTm];clear ht hs)
    | (refine st_new rfl 24 (.tmp 9) (.tmp 32) rfl #[.int .i64 po,.int .i64 pm,.int .i64 pq,.slice pa pn pc] _ _ rfl rfl tmInfo rfl (tm_one _ _ _ _ _ _) ?_;obtain ⟨W3,hW3⟩ : ∃ W3,w3.alloc (.cells #[.int .i64 po,.int .i64 pm,.int .i64 pq,.slice pa pn pc] 24) = W3:=⟨_,rfl⟩;have B9 : RowKit.Hid (Blk W3 w3.heap.size 24 #[.int .i64 po,.int .i64 pm,.int .i64 pq,.slice pa pn pc]):=(by show Blk _ _ _ _;rw [← hW3];exact Blk.new _ _ _);have Q3 : RowKit.Hid (Below w3.heap.size w3 W3):=(by show Below _ _ _;rw [← hW3];exact (by (repeat (with_reducible first | exact Below.refl _ _ | refine bdr ?_ | refine bdn ?_ _ | refine bal ?_ _))));have BL3:=Lib.hid ((BL2.out.step S4.out (by omega)).below Q3.out);have K3:=Lib.hid (((K2.out.holed (hole_steps S3.out)).holed (hole_steps S4.out)).holed (hole_below Q3.out (by omega)));have TO3 : RowKit.Hid (TmOk (hole w.heap.size W3) (.mk po pm pq pa pn pc pk)):=((TP3.out.ok.holedF TP3.out.fr (by omega)).beh (hole_below Q3.out (by omega)));have BW3:=Lib.hid (btr (bos (bos (bos B1.out (Nat.le_refl _) S2.out) (Nat.le_refl _) S3.out) (Nat.le_refl _) S4.out) Q3.out);have T3:=Lib.hid (S4.out.now.below Q3.out);have y5:=B9.out.lt;rw [hW3];clear hW3 TP3 Q3 K2 S2 S3 S4 BL2 HT HN T1 B1)
    | (refine wpList_load_row rfl 24 (.tmp 9) rfl w3.heap.size rfl _ #[.int .i64 po,.int .i64 pm,.int .i64 pq,.slice pa pn pc] _ _ B9.out Tryz.underlying24 rfl tmInfo ?_)
    | (refine wpList_load_row rfl 42 (.tmp 4) rfl w2.heap.size rfl _ #[.int .i64 0,.slice ra rn rcc,.int .i64 crop,.int .i64 0] _ _ BL3.out Tryz.underlying42 rfl lineInfo ?_)
    | (go_at_call 20;refine (KW.eval (t:=(.mk po pm pq pa pn pc pk)) K3.out TO3.out CP.out (by decide : (0 : Int)≤9) (by decide)).mono ?_;rintro e v4 ⟨⟨y1a,y1n,y1c,y1l⟩,⟨n1a,n1n,n1c,n1l⟩,⟨o1a,o1n,o1c,o1l⟩,rfl,hy,hn',ho,hb,hf⟩;have Y1:=Lib.hid hy;have N1:=Lib.hid hn';have O1:=Lib.hid ho;have V4:=Lib.hid hb;have FN1:=Lib.hid hf;clear hy hn' ho hb hf)
    | (refine st_new rfl 55 (.tmp 10) (.tmp 41) rfl #[.slice y1a y1n y1c,.slice n1a n1n n1c,.slice o1a o1n o1c] _ _ rfl rfl trInfo rfl (sq_one _ _ _ rfl rfl rfl) ?_))
  obtain ⟨X4,hX4⟩ : ∃ X4,v4.alloc (.cells #[.slice y1a y1n y1c,.slice n1a n1n n1c,.slice o1a o1n o1c] 55) = X4:=⟨_,rfl⟩
  have Q4 : RowKit.Hid (Below v4.heap.size v4 X4):=by show Below _ _ _;rw [← hX4];exact (by (repeat (with_reducible first | exact Below.refl _ _ | refine bdr ?_ | refine bdn ?_ _ | refine bal ?_ _)))
  have EV1 : RowKit.Hid (EvAt X4 v4.heap.size (kwP ⟨ra,rn,rcc,rl⟩ crop ⟨ca,cn,cc,cl⟩ ⟨ha,hn,hc,hl⟩ ⟨za,zn,zc,zl⟩ year 9).env (TmM.mk po pm pq pa pn pc pk).pl ⟨y1a,y1n,y1c,y1l⟩ ⟨n1a,n1n,n1c,n1l⟩ ⟨o1a,o1n,o1c,o1l⟩):=⟨by rw [← hX4];exact Blk.new _ _ _,Y1.out.below Q4.out,N1.out.below Q4.out,O1.out.below Q4.out⟩
  have U4:=Lib.hid (btr V4.out Q4.out)
  have yv4:=V4.out.size
  have yb3 : w.heap.size < W3.heap.size:=by omega
  have K4:=Lib.hid (K3.out.holed (hole_below U4.out yb3));have TO4:=Lib.hid (TO3.out.beh (hole_below U4.out yb3));have B94:=Lib.hid (B9.out.below U4.out);have BL4:=Lib.hid (BL3.out.below U4.out);have T4:=Lib.hid (T3.out.below U4.out);have BW4:=Lib.hid (btr BW3.out U4.out)
  have y4s:=U4.out.size
  have ht1:=EV1.out.blk.lt
  rw [hX4]
  clear hX4 Q4 V4 Y1 N1 O1 U4 K3 TO3 B9 BL3 T3 BW3
  have cn3 : 3≤cn:=K4.out.three
  have cn8 : cn≤8:=K4.out.crs.few
  have hn5 : hn≤5:=K4.out.hin
  go_upto_region 7 with (first
    | (go_at_call 16;refine (next_any _ _ _ T4.out (by decide) (by decide)).mono ?_;rintro e w5 ⟨r5,r50,r51,rfl,hs⟩;have S5:=Lib.hid hs;have y5s:=hs.size;clear hs)
    | (go_at_call 29;refine (known15_any ⟨ha,hn,hc,hl⟩ r5 w5 (((K4.out.holed (hole_steps S5.out)).his.rws.fill).wide (by decide)) ⟨K4.out.his.cap.1,K4.out.his.cap.2.1⟩ (fun r hr=>((K4.out.holed (hole_steps S5.out)).his.rows r hr).fill) K4.out.his.hist (fun r hr=>(K4.out.his.can r hr).2) r50 (by omega)).mono ?_;rintro e w6 ⟨a6,n6,c6,l6,rfl,ok6,can6,hb6,fr6⟩;have OK6:=Lib.hid ok6;have CAN6:=Lib.hid can6;have V6:=Lib.hid hb6;have FR6:=Lib.hid fr6;have y6s:=hb6.size;clear ok6 can6 hb6 fr6)
    | (refine st_new rfl 38 (.tmp 13) (.tmp 49) rfl #[.slice a6 n6 c6] _ _ rfl rfl rgInfo rfl (rg_one _ _ _) ?_))
  obtain ⟨X6,hX6⟩ : ∃ X6,w6.alloc (.cells #[.slice a6 n6 c6] 38) = X6:=⟨_,rfl⟩
  have Q6 : RowKit.Hid (Below w6.heap.size w6 X6):=by show Below _ _ _;rw [← hX6];exact (by (repeat (with_reducible first | exact Below.refl _ _ | refine bdr ?_ | refine bdn ?_ _ | refine bal ?_ _)))
  have BK6 : RowKit.Hid (Blk X6 w6.heap.size 38 #[.slice a6 n6 c6]):=by show Blk _ _ _ _;rw [← hX6];exact Blk.new _ _ _
  have S46:=Lib.hid (stb (stb S5.out V6.out) Q6.out)
  have OKH6:=Lib.hid ((OK6.out.below Q6.out).holed (b:=w.heap.size) fun c off e=>by have:=FR6.out c off e;omega)
  have K6:=Lib.hid (K4.out.holed (hole_steps S46.out));have TO6:=Lib.hid (TO4.out.beh (hole_steps S46.out));have B96:=Lib.hid (B94.out.step S46.out (by omega));have BL6:=Lib.hid (BL4.out.step S46.out (by omega))
  have EV6:=Lib.hid (EV1.out.step S46.out (by omega))
  have c0 : X6.cell? ⟨w6.heap.size,0,none⟩ = some (.slice a6 n6 c6):=BK6.out.cell 0
  have BW6:=Lib.hid (bos BW4.out (Nat.le_refl _) S46.out)
  have S6:=Lib.hid (Steps1.refl S46.out.now)
  have y6b : w6.heap.size < X6.heap.size:=BK6.out.lt
  have yb6 : w.heap.size < w6.heap.size:=by omega
  have h9l : w3.heap.size < X6.heap.size:=B96.out.lt
  rw [hX6]
  clear hX6 Q6 OK6 V6 FR6 S5 EV1 K4 TO4 B94 BL4 T4 BW4 S46
  go_cut [15,16] (fun s s' wx=>∃ (g : Nat) (fs : Sc Rc),s = .pointer (some ⟨g,0,none⟩)∧s' = .int .i64 0∧Blk wx g 38 #[.slice fs.a fs.n fs.c]∧ScOk2 (hole w.heap.size wx) fs∧IsCan (inRc fs.l) fs.l∧(∀ x y,inRc fs.l x y→(0≤x∧x < 8∧0≤y∧y < 8)∧¬ recsY hl r5 x y)∧w.heap.size < g∧Steps1 w.heap.size X6 wx)
  case first =>
    go_region_held3 (fun w'=>w'.cell? ⟨w6.heap.size,0,none⟩ = some (.slice a6 n6 c6)) (first | exact c0 | exact bc1 (bal (Below.refl _ _) _) c0 | exact bc1 (bdr (bal (Below.refl _ _) _)) c0 | exact bc1 (bdr (bal (Below.refl _ _) _)) c1 | exact bc1 (bdr (bal (Below.refl _ _) _)) c2 | exact c1 | exact bc1 (bal (Below.refl _ _) _) c1 | exact c2 | exact bc1 (bal (Below.refl _ _) _) c2 | exact (World.cell?_setCell_other _ _ _ _ (by intro e;injection e;omega)).trans c2)
      (first
        | (go_at_call 31;refine (kregion_any w.heap.size 8 2 _ (by first | exact S6.out.now.drew | exact (S6.out.now.drew).alloc _) (by decide) (by decide) (by decide) (by decide)).mono ?_;rintro e w7 ⟨⟨a7,n7,c7,l7⟩,rfl,ok7,can7,bd7,fr7,hs7⟩;have S7 : RowKit.Hid (Steps1 w.heap.size X6 w7):=(by first | exact sts (sdr S6.out) hs7 | exact sts (sal (sdr S6.out) _) hs7);have c1:=sc1 S7.out c0 (by omega);have OK7:=Lib.hid ok7;have CAN7:=Lib.hid can7;have BD7:=Lib.hid bd7;have y7s:=S7.out.size;have OKN7:=Lib.hid (OKH6.out.below (hole_steps S7.out));(first | (have Z7 : RowKit.Hid (Blk w7 X6.heap.size 38 #[.slice none 0 0]):=(Blk.new X6.drew 38 #[.slice none 0 0]).step hs7 (by show X6.heap.size ≠ _;omega);have zl:=Z7.out.lt) | skip);clear ok7 can7 bd7 fr7 hs7)
        | (go_at_call 30;refine (rwithout_any a7 n7 c7 l7 a6 n6 c6 l6 _ ((OK7.out.fill).below (by (repeat (with_reducible first | assumption | exact Below.refl _ _ | refine bdr ?_ | refine bdn ?_ _ | refine bal ?_ _)))).1 ((OKN7.out.fill).below (by (repeat (with_reducible first | assumption | exact Below.refl _ _ | refine bdr ?_ | refine bdn ?_ _ | refine bal ?_ _)))).1 (vld_can CAN7.out fun x y k=>by have:=BD7.out x y k;omega) (vld_can CAN6.out fun x y k=>by obtain ⟨r,hr,-,k⟩:=k;exact (K6.out.his.can r hr).2 x y k) (fun x y k=>by have:=BD7.out x y k;omega)).mono ?_;rintro e w8 ⟨a8,n8,c8,l8,rfl,ok8,can8,hb8,fr8⟩;have V8 : RowKit.Hid (Below w7.heap.size w7 w8):=btr (by (repeat (with_reducible first | assumption | exact Below.refl _ _ | refine bdr ?_ | refine bdn ?_ _ | refine bal ?_ _))) hb8;have c2:=bc1 V8.out c1;have OK8:=Lib.hid ok8;have CAN8:=Lib.hid can8;have y8s:=V8.out.size;have FR8 : RowKit.Hid (∀ b off,a8 = some ⟨b,off,none⟩→w7.heap.size≤b):=(fun b off e=>by have:=fr8 b off e;(try simp at this);omega);(first | (have Z8:=Lib.hid (Z7.out.below V8.out);have FZ : RowKit.Hid (FarS X6.heap.size ⟨a8,n8,c8,l8⟩):=(fun _ b off e=>by have:=FR8.out b off e;omega)) | (have Z8 : RowKit.Hid (Blk w8 w7.heap.size 38 #[.slice none 0 0]):=(Blk.new w7 38 #[.slice none 0 0]).below hb8;have FZ : RowKit.Hid (FarS w7.heap.size ⟨a8,n8,c8,l8⟩):=(fun _ b off e=>by have:=fr8 b off e;simp at this;omega);have zl:=Z8.out.lt) | skip);(try (have z0:=Z8.out.cell 0;have f0:=Z8.out.free 0;have zlt:=Z8.out.lt;simp only [List.getElem?_toArray,List.getElem?_cons_zero] at z0));clear ok8 can8 hb8 fr8))
    all_goals go_wp2
    all_goals go_meet
    all_goals
      have hq : ∀ x y,inRc l8 x y→(0≤x∧x < 8∧0≤y∧y < 8)∧¬ recsY hl r5 x y:=fun x y k=>by
        have k2:=(CAN8.out.iff x y).1 k
        exact ⟨BD7.out x y k2.1,fun q=>k2.2 ((CAN6.out.iff x y).2 q)⟩
      case rel =>
        first
          | (have BA : Below w8.heap.size w8 (w8.alloc (.cells #[.slice a8 n8 c8] 38)):=(by (repeat (with_reducible first | exact Below.refl _ _ | refine bdr ?_ | refine bdn ?_ _ | refine bal ?_ _)))
             exact ⟨w8.heap.size,⟨a8,n8,c8,l8⟩,rfl,rfl,Blk.new _ _ _,(OK8.out.below BA).holed (fun c off e=>by have:=FR8.out c off e;omega),isCan_self CAN8.out,hq,by omega,sal (stb S7.out V8.out) _⟩)
          | exact ⟨_,⟨a8,n8,c8,l8⟩,rfl,rfl,Z8.out.put 0 _,((can_set (S:=inRc l8) FZ.out ⟨OK8.out,isCan_self CAN8.out⟩).ok).holed (fun c off e=>by have:=FR8.out c off e;omega),isCan_self CAN8.out,hq,by omega,sst (stb S7.out V8.out) _ _ _ (by omega)⟩
  case rest =>
  obtain ⟨g15,⟨fa,fn,fc,fl⟩,rfl,rfl,hBF,hOF,hCF,hQF,hgF,hSF⟩:=hcut
  have BF:=Lib.hid hBF;have OF:=Lib.hid hOF;have CF:=Lib.hid hCF;have QF:=Lib.hid hQF;have SF:=Lib.hid hSF
  have K7:=Lib.hid (K6.out.holed (hole_steps hSF));have TO7:=Lib.hid (TO6.out.beh (hole_steps hSF));have B97:=Lib.hid (B96.out.step hSF (by omega));have BL7:=Lib.hid (BL6.out.step hSF (by omega));have EV7:=Lib.hid (EV6.out.step hSF (by omega));have BW7:=Lib.hid (bos BW6.out (Nat.le_refl _) hSF)
  have c0 : wc.cell? ⟨g15,0,none⟩ = some (.slice fa fn fc):=BF.out.cell 0
  have S7:=Lib.hid (Steps1.refl hSF.now)
  have y7s:=hSF.size
  clear hBF hOF hCF hQF hSF K6 TO6 B96 BL6 EV6 BW6 OKH6 CAN6 BK6 S6
  go_upto_region 8 with fail
  go_cut [17,18] (fun s s' wx=>∃ (hs : Sc RcdM) (rr : Int),s = .slice hs.a hs.n hs.c∧s' = .int .i64 0∧KHs w.heap.size cn 4 wx hs∧HAdded (hl.map RcdM.pl) r5 rr (inRc fl) (hs.l.map RcdM.pl)∧Steps1 w.heap.size wc wx)
  case first =>
    go_region_held3 (fun w'=>w'.cell? ⟨g15,0,none⟩ = some (.slice fa fn fc)) (first | exact c0 | exact c1 | exact c2)
      (first
        | (go_at_call 16;refine (next_any _ _ _ (S7.out.now.drew) (by omega) (by omega)).mono ?_;rintro e w9 ⟨r9,r90,r91,rfl,hs9⟩;have S9 : RowKit.Hid (Steps1 w.heap.size wc w9):=sts (sdr S7.out) hs9;have c1:=sc1 S9.out c0 (by omega);clear hs9)
        | (go_at_call 32;refine (khadd2_any w.heap.size cn 4 w9 ⟨ha,hn,hc,hl⟩ ⟨fa,fn,fc,fl⟩ r5 r9 S9.out.now (K7.out.his.holed (hole_steps S9.out)) (by dsimp only;omega) ((OF.out.below (hole_steps S9.out)).fill) CF.out (fun x y k=>by have:=(QF.out x y k).1;omega) r50 (by omega) (by decide) r90 (by omega) (by omega)).mono ?_;rintro e w10 ⟨⟨ma,mn,mc,ml⟩,rfl,hk,had,-,hb⟩;have HK:=Lib.hid hk;have HAD:=Lib.hid had;have S10:=Lib.hid (stb S9.out hb);have c2:=bc1 hb c1;clear hk had hb))
    all_goals go_wp2
    all_goals go_meet
    all_goals (case rel=>exact ⟨⟨ma,mn,mc,ml⟩,r9,rfl,rfl,HK.out,HAD.out,S10.out⟩)
  case rest =>
  obtain ⟨⟨ma,mn,mc,ml⟩,rr,rfl,rfl,hKM,hAD,hSM⟩:=hcut
  have KM:=Lib.hid hKM
  have LS:=Lib.hid (less_of hAD fun x y k=>by rintro ⟨r,hr,h1,h2⟩;obtain ⟨q,hq,rfl⟩:=List.mem_map.1 hr;exact (QF.out x y k).2 ⟨q,hq,h1,h2⟩)
  have K8:=Lib.hid (K7.out.holed (hole_steps hSM));have TO8:=Lib.hid (TO7.out.beh (hole_steps hSM));have B98:=Lib.hid (B97.out.step hSM (by omega));have BL8:=Lib.hid (BL7.out.step hSM (by omega));have EV8:=Lib.hid (EV7.out.step hSM (by omega));have BW8:=Lib.hid (bos BW7.out (Nat.le_refl _) hSM)
  have yb8 : w.heap.size < wc.heap.size:=by have:=hSM.size;omega
  clear hKM hAD hSM K7 TO7 B97 BL7 EV7 BW7 BF OF CF QF SF S7
  go_upto_region 10 with (first
    | (refine wpList_load_row rfl 24 (.tmp 9) rfl w3.heap.size rfl _ #[.int .i64 po,.int .i64 pm,.int .i64 pq,.slice pa pn pc] _ _ B98.out Tryz.underlying24 rfl tmInfo ?_)
    | (refine wpList_load_row rfl 42 (.tmp 4) rfl w2.heap.size rfl _ #[.int .i64 0,.slice ra rn rcc,.int .i64 crop,.int .i64 0] _ _ BL8.out Tryz.underlying42 rfl lineInfo ?_)
    | (go_at_call 20;refine (KW.eval2 (t:=(.mk po pm pq pa pn pc pk)) K8.out KM.out TO8.out CP.out (by decide : (0 : Int)≤9) (by decide)).mono ?_;rintro e v10 ⟨⟨y2a,y2n,y2c,y2l⟩,⟨n2a,n2n,n2c,n2l⟩,⟨o2a,o2n,o2c,o2l⟩,rfl,hy,hn',ho,hb,hf⟩;have Y2:=Lib.hid hy;have N2:=Lib.hid hn';have O2:=Lib.hid ho;have V10:=Lib.hid hb;have FN2:=Lib.hid hf;clear hy hn' ho hb hf)
    | (refine st_new rfl 55 (.tmp 19) (.tmp 77) rfl #[.slice y2a y2n y2c,.slice n2a n2n n2c,.slice o2a o2n o2c] _ _ rfl rfl trInfo rfl (sq_one _ _ _ rfl rfl rfl) ?_))
  obtain ⟨X10,hX10⟩ : ∃ X10,v10.alloc (.cells #[.slice y2a y2n y2c,.slice n2a n2n n2c,.slice o2a o2n o2c] 55) = X10:=⟨_,rfl⟩
  have Q10 : RowKit.Hid (Below v10.heap.size v10 X10):=by show Below _ _ _;rw [← hX10];exact (by (repeat (with_reducible first | exact Below.refl _ _ | refine bdr ?_ | refine bdn ?_ _ | refine bal ?_ _)))
  have EVB : RowKit.Hid (EvAt X10 v10.heap.size (kwP ⟨ra,rn,rcc,rl⟩ crop ⟨ca,cn,cc,cl⟩ ⟨ma,mn,mc,ml⟩ ⟨za,zn,zc,zl⟩ year 9).env (TmM.mk po pm pq pa pn pc pk).pl ⟨y2a,y2n,y2c,y2l⟩ ⟨n2a,n2n,n2c,n2l⟩ ⟨o2a,o2n,o2c,o2l⟩):=⟨by rw [← hX10];exact Blk.new _ _ _,Y2.out.below Q10.out,N2.out.below Q10.out,O2.out.below Q10.out⟩
  have U10:=Lib.hid (btr V10.out Q10.out)
  have EVA:=Lib.hid (EV8.out.below U10.out)
  have TO10:=Lib.hid (TO8.out.beh (hole_below U10.out yb8));have B9X:=Lib.hid (B98.out.below U10.out);have BWX:=Lib.hid (btr BW8.out U10.out)
  have HU:=Lib.hid (uses_any (.mk po pm pq pa pn pc pk) X10 TO10.out.fill)
  have BD:=Lib.hid (fun x y k=>by have:=K8.out.board x y k;omega : Board (kwP ⟨ra,rn,rcc,rl⟩ crop ⟨ca,cn,cc,cl⟩ ⟨ha,hn,hc,hl⟩ ⟨za,zn,zc,zl⟩ year 9).env.R)
  have LE : RowKit.Hid (Env.Less (kwP ⟨ra,rn,rcc,rl⟩ crop ⟨ca,cn,cc,cl⟩ ⟨ha,hn,hc,hl⟩ ⟨za,zn,zc,zl⟩ year 9).env (kwP ⟨ra,rn,rcc,rl⟩ crop ⟨ca,cn,cc,cl⟩ ⟨ma,mn,mc,ml⟩ ⟨za,zn,zc,zl⟩ year 9).env):=⟨rfl,rfl,rfl,rfl,rfl,rfl,LS.out⟩
  rw [hX10]
  clear hX10 Q10 V10 Y2 N2 O2 U10 KM LS K8 TO8 B98 BL8 EV8 BW8 TO10
  by_cases hA : (TmM.mk po pm pq pa pn pc pk).pl.Asks
  · go_wp2_with (first
      | (refine wpList_load_row rfl 24 (.tmp 9) rfl w3.heap.size rfl _ #[.int .i64 po,.int .i64 pm,.int .i64 pq,.slice pa pn pc] _ _ B9X.out Tryz.underlying24 rfl tmInfo ?_)
      | (go_at_call 33;refine HU.out.mono ?_;rintro e u1 ⟨v,rfl,hv,hb⟩;obtain rfl : v = true:=hv.2 hA;clear hv;have VU:=Lib.hid hb;clear hb)
      | (go_at_call 10;refine (awake_any _).mono ?_;rintro e u2 ⟨rfl,hb⟩;have VV:=Lib.hid (btr VU.out hb);clear hb))
    go_ret
    exact ⟨rfl,btr BWX.out VV.out⟩
  · have LN:=Env.learn LE.out (TmM.mk po pm pq pa pn pc pk).pl hA
    have f1:=FN1.out;have f2:=FN2.out
    have hoo : ∀ x y,(kwP ⟨ra,rn,rcc,rl⟩ crop ⟨ca,cn,cc,cl⟩ ⟨ma,mn,mc,ml⟩ ⟨za,zn,zc,zl⟩ year 9).env.rest ((kwP ⟨ra,rn,rcc,rl⟩ crop ⟨ca,cn,cc,cl⟩ ⟨ma,mn,mc,ml⟩ ⟨za,zn,zc,zl⟩ year 9).env.ev (TmM.mk po pm pq pa pn pc pk).pl) x y→(kwP ⟨ra,rn,rcc,rl⟩ crop ⟨ca,cn,cc,cl⟩ ⟨ha,hn,hc,hl⟩ ⟨za,zn,zc,zl⟩ year 9).env.rest ((kwP ⟨ra,rn,rcc,rl⟩ crop ⟨ca,cn,cc,cl⟩ ⟨ha,hn,hc,hl⟩ ⟨za,zn,zc,zl⟩ year 9).env.ev (TmM.mk po pm pq pa pn pc pk).pl) x y:=fun x y k=>⟨k.1,fun q=>k.2.1 (LN.1 x y q),fun q=>k.2.2 (LN.2 x y q)⟩
    have A1:=Lib.hid fun W' (hW' : Below X10.heap.size X10 W')=>withinYes (EVA.out.ys.below hW') (EVB.out.ys.below hW') (fun a b k=>BD.out a b (f1.yes a b k)) (fun a b k=>BD.out a b (f2.yes a b k)) (fun x y k=>LN.1 x y k)
    have A2:=Lib.hid fun W' (hW' : Below X10.heap.size X10 W')=>withinYes (EVA.out.ns.below hW') (EVB.out.ns.below hW') (fun a b k=>BD.out a b (f1.no a b k)) (fun a b k=>BD.out a b (f2.no a b k)) (fun x y k=>LN.2 x y k)
    have A3:=Lib.hid fun W' (hW' : Below X10.heap.size X10 W')=>withinYes (EVB.out.os.below hW') (EVA.out.os.below hW') (fun a b k=>BD.out a b k.1) (fun a b k=>BD.out a b k.1) hoo
    have A4:=Lib.hid fun W' (hW' : Below X10.heap.size X10 W')=>awake_any W'
    have D1:=Lib.hid EVA.out.blk;have D2:=Lib.hid EVB.out.blk
    have HNA:=Lib.hid hA
    clear LN f1 f2 hoo EVA EVB BD LE FN1 FN2 hA
    dsimp only at A1 A2 A3
    go_wp2_with (first
      | (refine wpList_load_row rfl 24 (.tmp 9) rfl w3.heap.size rfl _ #[.int .i64 po,.int .i64 pm,.int .i64 pq,.slice pa pn pc] _ _ B9X.out Tryz.underlying24 rfl tmInfo ?_)
      | (go_at_call 33;refine HU.out.mono ?_;rintro e u1 ⟨v,rfl,hv,hb⟩;obtain rfl : v = false:=no_true fun c=>HNA.out (hv.1 c);clear hv;have VU:=Lib.hid hb;clear hb;have d0 : u1.cell? ⟨v4.heap.size,0,none⟩ = some (.slice y1a y1n y1c):=(D1.out.below VU.out).cell 0;have d1 : u1.cell? ⟨v4.heap.size,1,none⟩ = some (.slice n1a n1n n1c):=(D1.out.below VU.out).cell 1;have d2 : u1.cell? ⟨v4.heap.size,2,none⟩ = some (.slice o1a o1n o1c):=(D1.out.below VU.out).cell 2;have e0 : u1.cell? ⟨v10.heap.size,0,none⟩ = some (.slice y2a y2n y2c):=(D2.out.below VU.out).cell 0;have e1 : u1.cell? ⟨v10.heap.size,1,none⟩ = some (.slice n2a n2n n2c):=(D2.out.below VU.out).cell 1;have e2 : u1.cell? ⟨v10.heap.size,2,none⟩ = some (.slice o2a o2n o2c):=(D2.out.below VU.out).cell 2)
      | (go_at_call 26;have q:=A1.out _ VU.out;(with_reducible refine q.mono ?_);clear q;rintro e x1 ⟨rfl,hb⟩;have V1:=Lib.hid (btr VU.out hb);clear hb;clear d0 d1 d2 e0 e1 e2;have d0 : x1.cell? ⟨v4.heap.size,0,none⟩ = some (.slice y1a y1n y1c):=(D1.out.below V1.out).cell 0;have d1 : x1.cell? ⟨v4.heap.size,1,none⟩ = some (.slice n1a n1n n1c):=(D1.out.below V1.out).cell 1;have d2 : x1.cell? ⟨v4.heap.size,2,none⟩ = some (.slice o1a o1n o1c):=(D1.out.below V1.out).cell 2;have e0 : x1.cell? ⟨v10.heap.size,0,none⟩ = some (.slice y2a y2n y2c):=(D2.out.below V1.out).cell 0;have e1 : x1.cell? ⟨v10.heap.size,1,none⟩ = some (.slice n2a n2n n2c):=(D2.out.below V1.out).cell 1;have e2 : x1.cell? ⟨v10.heap.size,2,none⟩ = some (.slice o2a o2n o2c):=(D2.out.below V1.out).cell 2)
      | (go_at_call 26;have q:=A2.out _ V1.out;(with_reducible refine q.mono ?_);clear q;rintro e x2 ⟨rfl,hb⟩;have V2:=Lib.hid (btr V1.out hb);clear hb;clear d0 d1 d2 e0 e1 e2;have d0 : x2.cell? ⟨v4.heap.size,0,none⟩ = some (.slice y1a y1n y1c):=(D1.out.below V2.out).cell 0;have d1 : x2.cell? ⟨v4.heap.size,1,none⟩ = some (.slice n1a n1n n1c):=(D1.out.below V2.out).cell 1;have d2 : x2.cell? ⟨v4.heap.size,2,none⟩ = some (.slice o1a o1n o1c):=(D1.out.below V2.out).cell 2;have e0 : x2.cell? ⟨v10.heap.size,0,none⟩ = some (.slice y2a y2n y2c):=(D2.out.below V2.out).cell 0;have e1 : x2.cell? ⟨v10.heap.size,1,none⟩ = some (.slice n2a n2n n2c):=(D2.out.below V2.out).cell 1;have e2 : x2.cell? ⟨v10.heap.size,2,none⟩ = some (.slice o2a o2n o2c):=(D2.out.below V2.out).cell 2)
      | (go_at_call 26;have q:=A3.out _ V2.out;(with_reducible refine q.mono ?_);clear q;rintro e x3 ⟨rfl,hb⟩;have V3:=Lib.hid (btr V2.out hb);clear hb;clear d0 d1 d2 e0 e1 e2;have d0 : x3.cell? ⟨v4.heap.size,0,none⟩ = some (.slice y1a y1n y1c):=(D1.out.below V3.out).cell 0;have d1 : x3.cell? ⟨v4.heap.size,1,none⟩ = some (.slice n1a n1n n1c):=(D1.out.below V3.out).cell 1;have d2 : x3.cell? ⟨v4.heap.size,2,none⟩ = some (.slice o1a o1n o1c):=(D1.out.below V3.out).cell 2;have e0 : x3.cell? ⟨v10.heap.size,0,none⟩ = some (.slice y2a y2n y2c):=(D2.out.below V3.out).cell 0;have e1 : x3.cell? ⟨v10.heap.size,1,none⟩ = some (.slice n2a n2n n2c):=(D2.out.below V3.out).cell 1;have e2 : x3.cell? ⟨v10.heap.size,2,none⟩ = some (.slice o2a o2n o2c):=(D2.out.below V3.out).cell 2)
      | (go_at_call 10;have q:=A4.out _ V3.out;(with_reducible refine q.mono ?_);clear q;rintro e x4 ⟨rfl,hb⟩;have V4:=Lib.hid (btr V3.out hb);clear hb))
    go_ret
    exact ⟨rfl,btr BWX.out V4.out⟩
end Go.Proofs.YtancajcelmhnkaaGreatDoor
