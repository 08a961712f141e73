/- ref16.read at any words. -/
import Derived.Test.YtancajcelmhnkaaGreatDoorRg
set_option maxRecDepth 100000
set_option maxHeartbeats 2000000
namespace Go.Proofs.YtancajcelmhnkaaGreatDoor
open Go.RowKit Go.Sort Go.Shelf
set_option linter.unusedVariables false
set_option linter.unusedSimpArgs false
structure WsV (w:World) (a:Option Addr) (n c:Nat) (ws:List ByteArray):Prop where
 vw:Vw w a (strCells ws)
 len:ws.length=n
 cap:n≤c
 big:c≤9223372036854775807
theorem WsV.below {w w':World} {a:Option Addr} {n c:Nat} {ws:List ByteArray} (h:WsV w a n c ws) (hb:Below w.heap.size w w'):WsV w' a n c ws:=⟨h.vw.below hb,h.len,h.cap,h.big⟩
theorem WsV.first {w:World} {a:Option Addr} {n c:Nat} {s:ByteArray} {ws:List ByteArray} (h:WsV w a n c (s :: ws)):∃ b off,a=some ⟨b,off,none⟩∧n=ws.length+1∧w.cell? ⟨b,off,none⟩=some (.string s):=by
 obtain ⟨b,off,e,hc⟩:=h.vw 0 (.string s) rfl
 exact ⟨b,off,e,by rw [← h.len];rfl,hc⟩
theorem WsV.tail1 {w:World} {b off:Nat} {n:Nat} {s:ByteArray} {ws:List ByteArray} (h:WsV w (some ⟨b,off,none⟩) n 1 (s :: ws)):WsV w (some ⟨b,off,none⟩) 0 0 ws:=by
 have h1:=h.len;have h2:=h.cap
 have:ws=[]:=List.eq_nil_of_length_eq_zero (by simp at h1;omega)
 subst this
 exact ⟨Vw.nil _ _,rfl,Nat.le_refl _,Nat.zero_le _⟩
theorem WsV.tail2 {w:World} {b off:Nat} {n c:Nat} {s:ByteArray} {ws:List ByteArray} (h:WsV w (some ⟨b,off,none⟩) n c (s :: ws)):WsV w (some ⟨b,off+1,none⟩) ws.length (c - 1) ws:=by
 have h1:=h.len;have h2:=h.cap;have h3:=h.big
 refine ⟨fun i v hi=>?_,rfl,by simp at h1;omega,by omega⟩
 obtain ⟨b',o',e,hc⟩:=h.vw (i+1) v (by simpa using hi)
 cases e
 exact ⟨b,off+1,rfl,by rw [show off+1+i=off+(i+1) by omega];exact hc⟩
theorem WsV.kept {w w':World} {S:Nat→Prop} {a:Option Addr} {n c:Nat} {ws:List ByteArray} (h:WsV w a n c ws) (hk:Kept S w w') (hn:∀ b off,a=some ⟨b,off,none⟩→¬ S b):WsV w' a n c ws:=⟨hk.vw h.vw hn,h.len,h.cap,h.big⟩
theorem WsV.setRow {w:World} {a:Option Addr} {n c g:Nat} {cs:Array Value} {ws:List ByteArray} (h:WsV w a n c ws) (hg:∀ b off,a=some ⟨b,off,none⟩→b ≠ g):WsV (w.setRow g cs) a n c ws:=⟨vw_setRow h.vw hg,h.len,h.cap,h.big⟩
theorem Blk.put1 {w:World} {g i:Nat} {t:TypeId} {cs cs':Array Value} {v:Value} (h:Blk w g t cs) (e:cs.setIfInBounds i v=cs'):Blk (w.setCell ⟨g,i,none⟩ v) g t cs':=e ▸ h.put i v
theorem Blk.c4 {w:World} {g:Nat} {t:TypeId} {a b c d:Value} (h:Blk w g t #[a,b,c,d]):w.cell? ⟨g,0,none⟩=some a∧w.cell? ⟨g,1,none⟩=some b∧w.cell? ⟨g,2,none⟩=some c∧w.cell? ⟨g,3,none⟩=some d:=⟨h.cell 0,h.cell 1,h.cell 2,h.cell 3⟩
theorem kept_row (w:World) (g:Nat) (cs:Array Value):Kept (fun k=>k=g) w (w.setRow g cs):=⟨rfl,rfl,rfl,by simp,fun k hk hn=>setRow_other w g k cs hn⟩
theorem zeroM {o p q:Int}:(TmM.mk o p q none 0 0 []).pl=.mk o p q []:=by rw [TmM.pl_mk];rfl
theorem WsV.tail2' {w:World} {b off:Nat} {n c:Nat} {s:ByteArray} {ws:List ByteArray} (h:WsV w (some ⟨b,off,none⟩) (n+1) c (s :: ws)):WsV w (some ⟨b,off+1,none⟩) n (c - 1) ws:=by
 have h1:=h.tail2
 have h2:=h.len
 rwa [show ws.length=n by simpa using h2] at h1
theorem WsV.grown {w w':World} {a:Option Addr} {n c:Nat} {ws:List ByteArray} {v:Value} (h:WsV w a n c ws) (hg:w.grownBy w' v.ownBlock) (hne:∀ g,v.ownBlock=some g→∀ b off,a=some ⟨b,off,none⟩→b ≠ g):WsV w' a n c ws:=⟨fun i x hi=>by
 obtain ⟨b,off,e,hc⟩:=h.vw i x hi
 refine ⟨b,off,e,(World.cell?_of_block (w:=w) (a:=⟨b,off+i,none⟩) (hg.block b (World.block_lt_of_cell? w _ hc) fun c=>?_)).trans hc⟩
 exact hne b c.symm b off e rfl,h.len,h.cap,h.big⟩
theorem blk_grown {w w':World} {g:Nat} {t:TypeId} {cs:Array Value} {v:Value} (h:Blk w g t cs) (hg:w.grownBy w' v.ownBlock) (hne:∀ k,v.ownBlock=some k→g ≠ k):Blk w' g t cs:=(hg.block g h.lt fun c=>hne g c.symm rfl).trans h
theorem below_gr {a w w':World} {v:Value} (h:Below a.heap.size a w) (hg:w.grownBy w' v.ownBlock) (hne:∀ k,v.ownBlock=some k→a.heap.size≤k):Below a.heap.size a w':=⟨hg.os.trans h.os,hg.tape.trans h.tape,hg.output.trans h.output,Nat.le_trans h.size hg.size,fun i hi=>(hg.block i (Nat.lt_of_lt_of_le hi h.size) (fun c=>by have:=hne i c.symm;omega)).trans (h.block i hi)⟩
theorem kset {w:World} {b o g i:Nat} {v u:Value} (h:w.cell? ⟨b,o,none⟩=some v) (hn:b ≠ g):(w.setCell ⟨g,i,none⟩ u).cell? ⟨b,o,none⟩=some v:=(World.cell?_of_block (w:=w) (a:=⟨b,o,none⟩) (((Kept.refl (fun k=>k=g) w).set (o:=i) (v:=u) rfl).block b (World.block_lt_of_cell? w _ h) hn)).trans h
theorem celld {w:World} {b o:Nat} {v:Value} (h:w.cell? ⟨b,o,none⟩=some v):w.drew.cell? ⟨b,o,none⟩=some v:=h
theorem Blk.put4f {w:World} {g:Nat} {t:TypeId} {cs cs':Array Value} {v0 v1 v2 v3:Value} (h:Blk w g t cs) (e:(((cs.setIfInBounds 0 v0).setIfInBounds 1 v1).setIfInBounds 2 v2).setIfInBounds 3 v3=cs'):Blk ((((w.setCell ⟨g,0,none⟩ v0).setCell ⟨g,1,none⟩ v1).setCell ⟨g,2,none⟩ v2).setCell ⟨g,3,none⟩ v3) g t cs':=e ▸ (((h.put 0 v0).put 1 v1).put 2 v2).put 3 v3
theorem c4f {w:World} {g k:Nat} {a b c d v0 v1 v2 v3:Value} (hne:k ≠ g) (h:w.cell? ⟨k,0,none⟩=some a∧w.cell? ⟨k,1,none⟩=some b∧w.cell? ⟨k,2,none⟩=some c∧w.cell? ⟨k,3,none⟩=some d):((((w.setCell ⟨g,0,none⟩ v0).setCell ⟨g,1,none⟩ v1).setCell ⟨g,2,none⟩ v2).setCell ⟨g,3,none⟩ v3).cell? ⟨k,0,none⟩=some a∧((((w.setCell ⟨g,0,none⟩ v0).setCell ⟨g,1,none⟩ v1).setCell ⟨g,2,none⟩ v2).setCell ⟨g,3,none⟩ v3).cell? ⟨k,1,none⟩=some b∧((((w.setCell ⟨g,0,none⟩ v0).setCell ⟨g,1,none⟩ v1).setCell ⟨g,2,none⟩ v2).setCell ⟨g,3,none⟩ v3).cell? ⟨k,2,none⟩=some c∧((((w.setCell ⟨g,0,none⟩ v0).setCell ⟨g,1,none⟩ v1).setCell ⟨g,2,none⟩ v2).setCell ⟨g,3,none⟩ v3).cell? ⟨k,3,none⟩=some d:=⟨kset (kset (kset (kset h.1 hne) hne) hne) hne,kset (kset (kset (kset h.2.1 hne) hne) hne) hne,kset (kset (kset (kset h.2.2.1 hne) hne) hne) hne,kset (kset (kset (kset h.2.2.2 hne) hne) hne) hne⟩
theorem c4fd {w:World} {g k:Nat} {a b c d v0 v1 v2 v3:Value} (hne:k ≠ g) (h:w.cell? ⟨k,0,none⟩=some a∧w.cell? ⟨k,1,none⟩=some b∧w.cell? ⟨k,2,none⟩=some c∧w.cell? ⟨k,3,none⟩=some d):((((w.setCell ⟨g,0,none⟩ v0).setCell ⟨g,1,none⟩ v1).setCell ⟨g,2,none⟩ v2).setCell ⟨g,3,none⟩ v3).drew.cell? ⟨k,0,none⟩=some a∧((((w.setCell ⟨g,0,none⟩ v0).setCell ⟨g,1,none⟩ v1).setCell ⟨g,2,none⟩ v2).setCell ⟨g,3,none⟩ v3).drew.cell? ⟨k,1,none⟩=some b∧((((w.setCell ⟨g,0,none⟩ v0).setCell ⟨g,1,none⟩ v1).setCell ⟨g,2,none⟩ v2).setCell ⟨g,3,none⟩ v3).drew.cell? ⟨k,2,none⟩=some c∧((((w.setCell ⟨g,0,none⟩ v0).setCell ⟨g,1,none⟩ v1).setCell ⟨g,2,none⟩ v2).setCell ⟨g,3,none⟩ v3).drew.cell? ⟨k,3,none⟩=some d:=⟨celld (c4f hne h).1,celld (c4f hne h).2.1,celld (c4f hne h).2.2.1,celld (c4f hne h).2.2.2⟩
def RfP (w:World) (ain:Option Addr) (ws:List ByteArray) (e:Ending) (w':World):Prop :=
 ∃ (tm:TmM) (a:Option Addr) (n c:Nat) (ok:Bool),e=.returned (.tuple #[.agg (encTm tm).toArray,.slice a n c,.bool ok])∧(ok=true→∃ ws',TmOk w' tm∧TmFr w.heap.size tm∧WsV w' a n c ws'∧Rd ws tm.pl ws'∧ws' <:+ ws∧(∀ b' o',a=some ⟨b',o',none⟩→∃ o0,ain=some ⟨b',o0,none⟩))∧(ok=false→∀ t r,¬ Rd ws t r)∧Below w.heap.size w w'
def RfI (w:World) (b:Nat) (op:Int) (ws:List ByteArray) (v:Value) (wr:World):Prop :=
 ∃ (k:Nat) (L:List TmM) (r:List ByteArray) (a:Option Addr) (c:Nat) (kv:Value),v=.slice a r.length c∧L.length=k∧WsV wr a r.length c r∧(∀ b' o',a=some ⟨b',o',none⟩→b'=b)∧Blk wr w.heap.size 24 #[.int .i64 0,.int .i64 0,.int .i64 0,.slice none 0 0]∧Blk wr (w.heap.size+1) 24 #[.int .i64 op,.int .i64 0,.int .i64 0,kv]∧wr.ownsRow (w.heap.size+2) 24 4 kv k (cellsOf encTm L)∧(∀ t ∈ L,TmOk wr t∧TmFr (w.heap.size+2) t∧∀ g,kv.ownBlock=some g→TmOk (hole g wr) t)∧Rp ws (L.map TmM.pl) r∧r <:+ ws∧Below w.heap.size w wr
def Rf (n:Nat):Prop:=∀ (ws:List ByteArray),ws.length≤n→ws.length≤1000→∀ (w:World) (a:Option Addr) (m c:Nat),WsV w a m c ws→Calls Tryz.prog 83 #[.slice a m c] w (RfP w a ws)
theorem opV_eq (s:ByteArray) (p:Nat) (h1:1≤p) (h2:p≤11):((opWord p).toList == s.toList)=decide (opV s=p):=by
 rw [str_eqs]
 apply Bool.eq_iff_iff.2
 rw [decide_eq_true_iff,decide_eq_true_iff]
 have hw:=opV_word ⟨p - 1,by omega⟩
 simp only at hw
 have e:(((p - 1:Nat):Int)+1)=(p:Int):=by omega
 rw [e] at hw
 constructor
 ·intro h
  have:opWord p=s:=ByteArray.ext (Array.toList_inj.1 h)
  rw [← this];exact hw
 ·intro h
  rcases opV_cases s with ⟨k,rfl⟩ | ⟨k,rfl⟩ | ⟨k,rfl⟩ | ⟨k,rfl⟩ | ⟨k,rfl⟩ | ⟨k,rfl⟩ | ⟨k,rfl⟩ | ⟨k,rfl⟩ | ⟨k,rfl⟩ | ⟨k,rfl⟩ | ⟨k,rfl⟩ | ⟨k,_⟩
  all_goals rw [k] at h
  iterate 11 (obtain rfl:=Int.ofNat.inj h.symm;rfl)
  omega
theorem opV_le (s:ByteArray):0≤opV s∧opV s≤11:=by
 rcases opV_cases s with ⟨k,_⟩ | ⟨k,_⟩ | ⟨k,_⟩ | ⟨k,_⟩ | ⟨k,_⟩ | ⟨k,_⟩ | ⟨k,_⟩ | ⟨k,_⟩ | ⟨k,_⟩ | ⟨k,_⟩ | ⟨k,_⟩ | ⟨k,_⟩ <;> rw [k] <;> decide
theorem rread_nil (w:World) (a:Option Addr) (c:Nat):Calls Tryz.prog 83 #[.slice a 0 c] w (RfP w a []):=by
 obtain ⟨W,hW⟩:∃ W,w.alloc (.cells #[.int .i64 0,.int .i64 0,.int .i64 0,.slice none 0 0] 24)=W:=⟨_,rfl⟩
 have B0:RowKit.Hid (Blk W w.heap.size 24 #[.int .i64 0,.int .i64 0,.int .i64 0,.slice none 0 0]):=by show Blk _ _ _ _;rw [← hW];exact Blk.new w _ _
 have BB:RowKit.Hid (Below w.heap.size w W):=by show Below _ _ _;rw [← hW];exact Bw.out
 go_enter Tryz.func83,Tryz.ntmps83
 go_wp2_with (refine wpList_store_row rfl 24 (.tmp 2) (.tmp 17) rfl w.heap.size #[.int .i64 0,.int .i64 0,.int .i64 0,.slice none 0 0] rfl rfl _ _ B0.out tmInfo rfl (tm_one _ _ _ _ _ _) ?_)
 have B9:=setRow_heap W w.heap.size _ #[.int .i64 0,.int .i64 0,.int .i64 0,.slice none 0 0] _ _ B0.out
 refine bodyPost_ret (v:=.tuple #[.agg #[.int .i64 0,.int .i64 0,.int .i64 0,.slice none 0 0],.slice none 0 0,.bool false]) (by simp [results,Tryz.results83,go_sem,Blk.cell B9]) rfl ?_
 exact ⟨.mk 0 0 0 none 0 0 [],none,0,0,false,rfl,(fun h=>by cases h),fun _ t r=>Rd.no_nil,below_setRow BB.out (Nat.le_refl _) _⟩
end Go.Proofs.YtancajcelmhnkaaGreatDoor
