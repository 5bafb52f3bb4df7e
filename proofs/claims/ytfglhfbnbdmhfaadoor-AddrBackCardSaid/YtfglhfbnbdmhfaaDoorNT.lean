/- The functions that the laws reach: how they are compiled and read. Definitions alone. -/
import Derived.Test.YtfglhfbnbdmhfaaDoorTC
import Derived.Test.YtfglhfbnbdmhfaaDoorProg
import Derived.KernelRfl
namespace Go.Proofs.YtfglhfbnbdmhfaaDoor
open Go.VM
set_option maxRecDepth 100000
abbrev t0:Ty:=.pair (.int .u64) (.int .u64)
abbrev t1:Ty:=.st (.pair .bool t0)
abbrev t2:Ty:=.pair (.sl (.int .i64)) (.int .i64)
abbrev t3:Ty:=.pair (.int .u64) t0
abbrev t4:Ty:=.pair (.int .u64) t3
abbrev t5:Ty:=.pair (.int .u64) t4
abbrev t6:Ty:=.pair (.int .u64) t5
abbrev t7:Ty:=.pair (.int .u64) t6
abbrev t8:Ty:=.pair (.int .u64) t7
abbrev t9:Ty:=.st (.pair t1 t1)
abbrev t10:Ty:=.st (.av .u8 24)
abbrev t11:Ty:=.st (.av .u8 65)
/- exchangepoint/exchangepointlaw01.AddrShort -/
noncomputable def hh3:Hints:=⟨[],[(3,.r 3),(15,.r 3),(38,.e []),(46,.e []),(61,.e [])],[],[17,19,25,30,57,74,78,86,89],[],[]⟩
noncomputable def vf3:VF:=vfOf Tryd.prog hh3 [0,2,3,4,5,6,7,8,9,11,31,32,33,49,57,58,59,60,64,69] [] Tryd.f3
noncomputable def fi3:FI:=⟨[(0,.d (.sl (.int .i64))),(2,.d .bool),(12,.d (.sl (.int .i64))),(13,.ptr 100013 0),(100013,.box (.st t2)),(14,.d t1),(3,.reg t1),(15,.rp 3 0),(16,.d t1),(17,.d .str),(4,.d .str),(18,.d t1),(19,.d (.sl (.int .u8))),(5,.d (.sl (.int .u8))),(20,.d (.sl (.int .u8))),(21,.d (.int .i64)),(22,.d .bool),(23,.d .bool),(24,.d .str),(25,.d (.int .i64)),(26,.d .bool),(27,.d .bool),(28,.d .bool),(29,.d .str),(30,.d .bool),(31,.d .bool),(6,.d (.int .i64)),(7,.d (.int .i64)),(32,.d (.int .i64)),(33,.d .bool),(34,.d (.int .i64)),(8,.d (.int .i64)),(35,.d (.sl (.int .u8))),(36,.d (.int .i64)),(37,.d (.int .i64)),(38,.ep (.int .u8) 0 (some (5,none))),(39,.d (.int .u8)),(40,.d .bool),(41,.d .bool),(42,.d (.sl (.int .u8))),(43,.d (.int .i64)),(44,.d (.int .i64)),(45,.d (.int .i64)),(46,.ep (.int .u8) 0 (some (5,none))),(47,.d (.int .u8)),(48,.d .bool),(49,.d .bool),(50,.d (.int .i64)),(51,.d (.int .i64)),(52,.d (.int .i64)),(53,.d (.int .i64)),(54,.d (.int .i64)),(55,.d (.int .i64)),(9,.d (.int .i64)),(56,.d .str),(57,.d (.sl .str)),(58,.d (.int .i64)),(59,.d (.int .i64)),(60,.d .bool),(61,.ep .str 0 (some (57,none))),(62,.d .str),(11,.d .str),(63,.d .str),(64,.d .bool),(65,.d (.int .i64)),(66,.d (.int .i64)),(67,.d (.int .i64)),(68,.d (.int .i64)),(69,.d .bool),(70,.d (.int .i64)),(71,.d .bool),(72,.d .bool),(73,.d .str),(74,.d .bool),(75,.d .bool),(76,.d .bool),(77,.d .bool),(78,.d .bool),(79,.d .bool),(80,.d (.int .i64)),(81,.d (.int .i64)),(82,.d (.int .i64)),(83,.d .bool),(84,.d .bool),(85,.d .str),(86,.d .bool),(87,.d .bool),(88,.d .bool),(89,.d .bool),(90,.d .bool)],
  [.n,.j [4,7],.l [4,5,6,7,32] none,.n,.n,.j [4,5,6,7,32],.j [4,7,9],.l [4,7,9,57,58,59] none,.n,.j [4,7,9,57,58,59],.j [4,7,9,57,58,59],.n]⟩
/- exchangepoint/exchangepointlaw01.AddrSteps -/
noncomputable def hh4:Hints:=⟨[],[(5,.r 5),(6,.r 6),(8,.r 8),(28,.r 6),(31,.r 6),(36,.r 6),(41,.r 6),(45,.r 6),(55,.r 5),(61,.r 5),(65,.r 5),(67,.r 5)],[],[17,23,51,75],[],[]⟩
noncomputable def vf4:VF:=vfOf Tryd.prog hh4 [0,1,4,5,6,7,8,9,10,11,18,19,20,27,63] [] Tryd.f4
noncomputable def fi4:FI:=⟨[(0,.d (.sl (.int .i64))),(1,.d (.int .i64)),(4,.d .bool),(12,.d (.sl (.int .i64))),(13,.ptr 100013 0),(100013,.box (.st t2)),(14,.d t1),(5,.reg t1),(15,.d t1),(6,.reg t1),(16,.d (.int .i64)),(17,.d (.int .i64)),(7,.d (.int .i64)),(18,.d (.int .i64)),(19,.d (.int .i64)),(20,.d .bool),(22,.d t1),(23,.tup [t1,.bool]),(21,.tup [t1,.bool]),(24,.d t1),(25,.d .bool),(8,.reg t1),(9,.d .bool),(26,.d .bool),(27,.d .bool),(28,.rp 6 0),(29,.d .bool),(30,.d .bool),(31,.rp 6 1),(32,.d (.int .u64)),(33,.d .bool),(34,.d .bool),(35,.d .bool),(36,.rp 6 2),(37,.d (.int .u64)),(38,.d .bool),(39,.d .bool),(40,.d .bool),(41,.rp 6 0),(42,.d .bool),(43,.d .bool),(44,.d .bool),(45,.rp 6 2),(46,.d (.int .u64)),(47,.d .bool),(48,.d .bool),(49,.d .bool),(50,.d .bool),(51,.d .bool),(52,.d .bool),(53,.d t1),(54,.d (.int .i64)),(55,.rp 5 2),(56,.d (.int .u64)),(57,.d (.int .i64)),(58,.d (.int .u64)),(59,.d (.int .u64)),(10,.d (.int .u64)),(11,.d (.int .u64)),(60,.d (.int .u64)),(61,.rp 5 2),(62,.d (.int .u64)),(63,.d .bool),(64,.d t1),(65,.rp 5 0),(66,.d .bool),(67,.rp 5 1),(68,.d (.int .u64)),(69,.d (.int .u64)),(70,.d (.int .u64)),(71,.d (.int .u64)),(72,.d t1),(73,.d .bool),(74,.d .bool),(75,.d .bool),(76,.d .bool)],
  [.j [5,6,7],.l [5,6,7,18,19] none,.n,.n,.n,.j [5,6,10,11]]⟩
/- exchangepoint/exchangepointlaw01.AddrOrder -/
noncomputable def hh5:Hints:=⟨[],[(4,.r 4),(5,.r 5),(6,.r 6),(53,.r 4),(55,.r 5),(73,.r 4),(77,.r 5),(7,.r 7),(98,.r 4),(100,.r 5),(113,.r 7),(115,.r 4)],[],[19,22,28,38,43,49,61,64,67,83,89,106,111,121,127,132,137],[],[]⟩
noncomputable def vf5:VF:=vfOf Tryd.prog hh5 [0,2,3,4,5,6,7,8,52,86,93] [] Tryd.f5
noncomputable def fi5:FI:=⟨[(0,.d (.sl (.int .i64))),(2,.d .bool),(9,.d (.sl (.int .i64))),(10,.ptr 100010 0),(100010,.box (.st t2)),(3,.ptr 100010 0),(11,.ptr 100010 0),(12,.d t1),(13,.ptr 100010 0),(14,.d t1),(15,.ptr 100010 0),(16,.d t1),(4,.reg t1),(5,.reg t1),(6,.reg t1),(17,.d t1),(18,.d t1),(19,.d (.int .i64)),(20,.d t1),(21,.d t1),(22,.d (.int .i64)),(23,.d (.int .i64)),(24,.d .bool),(25,.d .bool),(26,.d t1),(27,.d t1),(28,.d (.int .i64)),(29,.d .bool),(30,.d t1),(31,.d t1),(32,.d .bool),(33,.d .bool),(34,.d .bool),(35,.d .bool),(36,.d t1),(37,.d t1),(38,.d (.int .i64)),(39,.d .bool),(40,.d .bool),(41,.d t1),(42,.d t1),(43,.d (.int .i64)),(44,.d .bool),(45,.d .bool),(46,.d .bool),(47,.d t1),(48,.d t1),(49,.d (.int .i64)),(50,.d .bool),(51,.d .bool),(52,.d .bool),(53,.rp 4 0),(54,.d .bool),(55,.rp 5 0),(56,.d .bool),(57,.d .bool),(58,.d .bool),(59,.d t1),(60,.d t1),(61,.d (.int .i64)),(62,.d .bool),(63,.d t1),(64,.d (.sl (.int .u8))),(65,.d .str),(66,.d t1),(67,.d (.sl (.int .u8))),(68,.d .str),(69,.d .bool),(70,.d .bool),(71,.d .bool),(72,.d .bool),(73,.rp 4 0),(74,.d .bool),(75,.d .bool),(76,.d .bool),(77,.rp 5 0),(78,.d .bool),(79,.d .bool),(80,.d .bool),(81,.d t1),(82,.d t1),(83,.d (.int .i64)),(84,.d .bool),(85,.d .bool),(86,.d .bool),(88,.d t1),(89,.tup [t1,.bool]),(87,.tup [t1,.bool]),(90,.d t1),(91,.d .bool),(7,.reg t1),(8,.d .bool),(92,.d .bool),(93,.d .bool),(94,.d t1),(95,.d t1),(96,.d .bool),(97,.d .bool),(98,.rp 4 0),(99,.d .bool),(100,.rp 5 0),(101,.d .bool),(102,.d .bool),(103,.d .bool),(104,.d t1),(105,.d t1),(106,.d (.int .i64)),(107,.d .bool),(108,.d .bool),(109,.d .bool),(110,.d .bool),(111,.d .bool),(112,.d .bool),(113,.rp 7 0),(114,.d .bool),(115,.rp 4 0),(116,.d .bool),(117,.d .bool),(118,.d .bool),(119,.d t1),(120,.d t1),(121,.d (.int .i64)),(122,.d .bool),(123,.d .bool),(124,.d .bool),(125,.d t1),(126,.d t1),(127,.d (.int .i64)),(128,.d .bool),(129,.d .bool),(130,.d t1),(131,.d t1),(132,.d (.int .i64)),(133,.d .bool),(134,.d .bool),(135,.d .bool),(136,.d .bool),(137,.d .bool),(138,.d .bool)],
  [.n,.n,.n]⟩
/- exchangepoint/exchangepointlaw01.AddrOrders -/
noncomputable def hh6:Hints:=⟨[],[(3,.r 3),(8,.r 8),(9,.r 9),(59,.e []),(11,.r 11),(62,.r 11),(12,.r 12),(68,.r 11),(14,.r 14),(73,.r 11),(75,.r 11),(78,.r 11),(80,.r 11),(95,.r 11),(99,.r 11),(127,.e []),(18,.r 18),(20,.r 20)],[],[23,25,33,35,39,42,64,70,77,82,97,101,108,110,131,136,148],[],[]⟩
noncomputable def vf6:VF:=vfOf Tryd.prog hh6 [0,1,2,3,6,7,8,9,11,12,13,14,15,17,18,19,20,21,24,45,55,56,57,58,104,123,124,125,126,146] [] Tryd.f6
noncomputable def fi6:FI:=⟨[(0,.d t1),(1,.d (.sl (.int .u8))),(2,.d (.sl (.int .i64))),(3,.reg t1),(6,.d .bool),(22,.d (.sl (.int .u8))),(23,.d .bool),(24,.d .bool),(25,.d .bool),(26,.d (.sl (.int .i64))),(27,.ptr 100027 0),(100027,.box (.st t2)),(7,.ptr 100027 0),(28,.ptr 100027 0),(29,.d t1),(30,.ptr 100027 0),(31,.d t1),(8,.reg t1),(9,.reg t1),(32,.d t1),(33,.d .bool),(34,.d t1),(35,.d .bool),(36,.d .bool),(37,.d .bool),(38,.d t1),(39,.d (.sl (.int .u8))),(40,.d .str),(41,.d t1),(42,.d (.sl (.int .u8))),(43,.d .str),(44,.d .bool),(45,.d .bool),(46,.d t1),(47,.d t1),(48,.d t9),(49,.d t1),(50,.d t1),(51,.d t9),(52,.d t1),(53,.d t1),(54,.d t9),(55,.d (.sl t9)),(56,.d (.int .i64)),(57,.d (.int .i64)),(58,.d .bool),(59,.ep t9 0 (some (55,none))),(60,.d t9),(11,.reg t9),(62,.rp 11 0),(63,.d t1),(64,.tup [t1,.bool]),(61,.tup [t1,.bool]),(65,.d t1),(66,.d .bool),(12,.reg t1),(13,.d .bool),(68,.rp 11 0),(69,.d t1),(70,.tup [t1,.bool]),(67,.tup [t1,.bool]),(71,.d t1),(72,.d .bool),(14,.reg t1),(15,.d .bool),(73,.rp 11 0),(74,.d t1),(75,.rp 11 3),(76,.d t1),(77,.d (.int .i64)),(78,.rp 11 0),(79,.d t1),(80,.rp 11 3),(81,.d t1),(82,.d (.int .i64)),(83,.d .bool),(84,.d .bool),(85,.d t1),(86,.d t1),(87,.d .bool),(88,.d .bool),(89,.d .bool),(90,.d .bool),(91,.d .bool),(92,.d .bool),(93,.d .bool),(94,.d .bool),(95,.rp 11 0),(96,.d t1),(97,.d (.sl (.int .u8))),(98,.d .str),(99,.rp 11 0),(100,.d t1),(101,.d (.sl (.int .u8))),(102,.d .str),(103,.d .bool),(104,.d .bool),(105,.d (.int .i64)),(106,.d (.sl (.int .u8))),(107,.d t1),(108,.d (.sl (.int .u8))),(109,.d t1),(110,.d (.sl (.int .u8))),(111,.d (.sl (.int .u8))),(112,.d (.sl (.int .u8))),(113,.d (.sl (.int .u8))),(114,.d (.sl (.int .u8))),(115,.d (.int .i64)),(116,.d (.int .i64)),(117,.d (.sl (.int .u8))),(118,.d (.sl (.int .u8))),(119,.d (.sl (.int .u8))),(120,.d (.int .i64)),(121,.d (.int .i64)),(122,.d (.sl (.int .u8))),(123,.d (.sl (.sl (.int .u8)))),(124,.d (.int .i64)),(125,.d (.int .i64)),(126,.d .bool),(127,.ep (.sl (.int .u8)) 0 (some (123,none))),(128,.d (.sl (.int .u8))),(17,.d (.sl (.int .u8))),(130,.d (.sl (.int .u8))),(131,.tup [t1,.int .i64]),(129,.tup [t1,.int .i64]),(132,.d t1),(133,.d (.int .i64)),(18,.reg t1),(19,.d (.int .i64)),(135,.d
  (.sl (.int .u8))),(136,.tup [t1,.int .i64]),(134,.tup [t1,.int .i64]),(137,.d t1),(138,.d (.int .i64)),(20,.reg t1),(21,.d (.int .i64)),(139,.d t1),(140,.d t1),(141,.d .bool),(142,.d .bool),(143,.d (.int .i64)),(144,.d (.int .i64)),(145,.d .bool),(146,.d .bool),(147,.d (.int .i64)),(148,.d .bool)],
  [.n,.n,.j [1,8,9],.l [1,8,9,55,56,57] none,.n,.n,.n,.j [],.l [123,124,125] none,.n,.n,.n]⟩
/- exchangepoint/exchangepointlaw01.AddrBack -/
noncomputable def hh7:Hints:=⟨[],[(6,.r 6),(7,.r 7),(8,.r 8),(10,.r 10),(74,.e []),(14,.r 14),(16,.r 16)],[],[21,30,31,36,37,58,60,78,85,86,98,104,105,107,111],[],[]⟩
noncomputable def vf7:VF:=vfOf Tryd.prog hh7 [0,1,4,5,6,7,8,9,10,11,13,14,15,16,17,20,66,70,71,72,73,82,109] [] Tryd.f7
noncomputable def fi7:FI:=⟨[(0,.d (.sl (.int .i64))),(1,.d .str),(4,.d .bool),(18,.d .str),(19,.d (.int .i64)),(20,.d .bool),(21,.d .bool),(22,.d (.sl (.int .i64))),(23,.ptr 100023 0),(100023,.box (.st t2)),(5,.ptr 100023 0),(24,.ptr 100023 0),(25,.d t1),(26,.ptr 100023 0),(27,.d t1),(6,.reg t1),(7,.reg t1),(29,.d t1),(30,.d .str),(31,.tup [t1,.int .i64]),(28,.tup [t1,.int .i64]),(32,.d t1),(33,.d (.int .i64)),(8,.reg t1),(9,.d (.int .i64)),(35,.d t1),(36,.d (.sl (.int .u8))),(37,.tup [t1,.int .i64]),(34,.tup [t1,.int .i64]),(38,.d t1),(39,.d (.int .i64)),(10,.reg t1),(11,.d (.int .i64)),(40,.d (.int .i64)),(41,.d .bool),(42,.d .bool),(43,.d (.int .i64)),(44,.d .bool),(45,.d .bool),(46,.d .bool),(47,.d t1),(48,.d t1),(49,.d .bool),(50,.d .bool),(51,.d .bool),(52,.d t1),(53,.d t1),(54,.d .bool),(55,.d .bool),(56,.d .bool),(57,.d t1),(58,.d .str),(59,.d t1),(60,.d .str),(61,.d .bool),(62,.d t1),(63,.d t1),(64,.d .bool),(65,.d .bool),(66,.d .bool),(67,.d .str),(68,.ptr 100023 0),(69,.d .str),(70,.d (.sl .str)),(71,.d (.int .i64)),(72,.d (.int .i64)),(73,.d .bool),(74,.ep .str 0 (some (70,none))),(75,.d .str),(13,.d .str),(77,.d .str),(78,.tup [t1,.int .i64]),(76,.tup [t1,.int .i64]),(79,.d t1),(80,.d (.int .i64)),(14,.reg t1),(15,.d (.int .i64)),(81,.d (.int .i64)),(82,.d .bool),(84,.d t1),(85,.d .str),(86,.tup [t1,.int .i64]),(83,.tup [t1,.int .i64]),(87,.d t1),(88,.d (.int .i64)),(16,.reg t1),(17,.d (.int .i64)),(89,.d (.int .i64)),(90,.d .bool),(91,.d .bool),(92,.d t1),(93,.d t1),(94,.d .bool),(95,.d .bool),(96,.d .bool),(97,.d t1),(98,.d .str),(99,.d (.int .i64)),(100,.d .bool),(101,.d .bool),(102,.d .bool),(103,.d t1),(104,.d .str),(105,.d .str),(106,.d t1),(107,.d .str),(108,.d .bool),(109,.d .bool),(110,.d (.int .i64)),(111,.d .bool)],
  [.n,.n,.j [],.l [70,71,72] none,.n,.j [70,71,72],.n,.n]⟩
/- exchangepoint/exchangepointmake.New -/
noncomputable def hh8:Hints:=⟨[5],[],[],[],[],[]⟩
noncomputable def vf8:VF:=vfOf Tryd.prog hh8 [0,2] [] Tryd.f8
noncomputable def fi8:FI:=⟨[(0,.d (.sl (.int .i64))),(3,.d (.sl (.int .i64))),(4,.d (.st t2)),(5,.ptr 100005 0),(100005,.box (.st t2)),(2,.ptr 100005 0)],
  []⟩
/- (*exchangepoint/exchangepointmake.Deck).Addr -/
noncomputable def hh9:Hints:=⟨[],[(2,.r 2),(31,.e []),(39,.e []),(44,.e [])],[],[],[],[]⟩
noncomputable def vf9:VF:=vfOf Tryd.prog hh9 [0,2,4,5,16,26,34,47] [] Tryd.f9
noncomputable def fi9:FI:=⟨[(0,.ptr 200000 0),(200000,.box (.st t2)),(2,.reg t1),(3,.ptr 200000 0),(4,.d (.int .i64)),(6,.d .bool),(5,.d .bool),(7,.ptr 200000 0),(8,.d (.int .i64)),(9,.d (.int .i64)),(10,.d (.int .i64)),(11,.ptr 200000 0),(12,.d (.int .i64)),(13,.d (.int .i64)),(14,.d (.int .u64)),(15,.d t1),(17,.d .bool),(16,.d .bool),(18,.ptr 200000 0),(19,.d (.int .i64)),(20,.d (.int .u64)),(21,.d (.int .u64)),(22,.ptr 200000 0),(23,.d (.int .i64)),(24,.d (.int .u64)),(25,.d t1),(27,.d .bool),(26,.d .bool),(28,.d (.sl (.int .u64))),(29,.ptr 200000 0),(30,.d (.int .i64)),(31,.ep (.int .u64) 0 (some (28,none))),(32,.d (.int .u64)),(33,.d t1),(35,.d .bool),(34,.d .bool),(36,.d (.sl (.int .u64))),(37,.ptr 200000 0),(38,.d (.int .i64)),(39,.ep (.int .u64) 0 (some (36,none))),(40,.d (.int .u64)),(41,.d (.sl (.int .u64))),(42,.ptr 200000 0),(43,.d (.int .i64)),(44,.ep (.int .u64) 0 (some (41,none))),(45,.d (.int .u64)),(46,.d t1),(48,.d .bool),(47,.d .bool),(49,.ptr 200000 0),(50,.d (.int .i64)),(51,.d (.int .u64)),(52,.ptr 200000 0),(53,.d (.int .i64)),(54,.d (.int .i64)),(55,.d (.int .u64)),(56,.d (.int .u64)),(57,.ptr 200000 0),(58,.d (.int .i64)),(59,.d (.int .u64)),(60,.ptr 200000 0),(61,.d (.int .i64)),(62,.d (.int .i64)),(63,.d (.int .u64)),(64,.d (.int .u64)),(65,.d t1),(66,.ptr 200000 0),(67,.d (.int .i64)),(68,.d (.int .u64)),(69,.d t1)],
  [.n,.n,.n,.n,.n,.n]⟩
/- exchangepoint/addr.Print -/
noncomputable def hh10:Hints:=⟨[],[(1,.r 1),(9,.r 1),(17,.e []),(6,.r 6)],[],[13,22,27,29,32,38,41,47],[],[]⟩
noncomputable def vf10:VF:=vfOf Tryd.prog hh10 [0,1,2,3,5,6,7,8,11,13,14,15,16,36] [] Tryd.f10
noncomputable def fi10:FI:=⟨[(0,.d t1),(1,.reg t1),(2,.d .str),(9,.rp 1 0),(10,.d .bool),(11,.d .bool),(3,.d (.sl .str)),(12,.d t1),(13,.d (.sl (.int .u8))),(14,.d (.int .i64)),(15,.d (.int .i64)),(16,.d .bool),(17,.ep (.int .u8) 0 (some (13,none))),(18,.d (.int .u8)),(5,.d (.int .u8)),(19,.d (.sl .str)),(20,.d (.int .u8)),(21,.d (.int .i64)),(22,.d .str),(23,.d (.sl .str)),(24,.d (.sl .str)),(25,.d (.int .i64)),(26,.d (.sl .str)),(27,.d .str),(28,.d t1),(29,.d (.st t8)),(6,.reg (.st t8)),(31,.d (.st t8)),(32,.tup [.int .i64,.int .i64]),(30,.tup [.int .i64,.int .i64]),(33,.d (.int .i64)),(34,.d (.int .i64)),(7,.d (.int .i64)),(8,.d (.int .i64)),(35,.d (.int .i64)),(36,.d .bool),(37,.d (.sl (.int .u64))),(38,.d .str),(39,.d (.int .i64)),(40,.d (.sl (.int .u64))),(41,.d .str),(42,.d .str),(43,.d (.int .i64)),(44,.d (.int .i64)),(45,.d (.int .i64)),(46,.d (.sl (.int .u64))),(47,.d .str),(48,.d .str)],
  [.n,.j [3],.l [3,13,14,15] (some [(15,⟨[],none⟩),(14,⟨[],none⟩),(13,⟨[(0,⟨[896],true,true,true,true,none⟩)],none⟩),(3,⟨[(0,⟨[1600],true,true,true,true,none⟩)],none⟩)]),.n,.n,.n]⟩
/- exchangepoint/addr.Bytes -/
noncomputable def hh11:Hints:=⟨[],[(1,.r 1),(9,.r 1),(21,.r 1),(24,.e []),(25,.r 1),(28,.r 1),(32,.r 1),(33,.r 1),(36,.r 1)],[],[7],[],[]⟩
noncomputable def vf11:VF:=vfOf Tryd.prog hh11 [0,1,2,3,4,5,8,10,16] [] Tryd.f11
noncomputable def fi11:FI:=⟨[(0,.d t1),(1,.reg t1),(2,.d (.sl (.int .u8))),(6,.d t1),(7,.d .bool),(8,.d .bool),(3,.d (.int .i64)),(9,.rp 1 0),(10,.d .bool),(11,.d (.int .i64)),(12,.d (.sl (.int .u8))),(4,.d (.sl (.int .u8))),(13,.d (.int .i64)),(14,.d (.int .i64)),(5,.d (.int .i64)),(15,.d (.int .i64)),(16,.d .bool),(19,.d (.sl (.int .u8))),(20,.d (.int .i64)),(21,.rp 1 2),(22,.d (.int .u64)),(23,.d (.int .u8)),(24,.ep (.int .u8) 0 (some (4,none))),(25,.rp 1 2),(26,.d (.int .u64)),(27,.d (.int .u64)),(28,.rp 1 1),(29,.d (.int .u64)),(30,.d (.int .u64)),(31,.d (.int .u64)),(32,.rp 1 2),(33,.rp 1 1),(34,.d (.int .u64)),(35,.d (.int .u64)),(36,.rp 1 1),(17,.d (.int .i64)),(18,.d (.int .i64)),(37,.d (.sl (.int .u8)))],
  [.n,.j [1,3],.j [4],.l [1,4,5] none,.n,.n]⟩
/- exchangepoint/exchangepointlaw01.awake -/
noncomputable def hh15:Hints:=⟨[],[(1,.r 1),(3,.r 3)],[],[6,10,17,26],[],[]⟩
noncomputable def vf15:VF:=vfOf Tryd.prog hh15 [0,1,2,4] [] Tryd.f15
noncomputable def fi15:FI:=⟨[(0,.d .bool),(6,.tup [t1,.int .i64]),(5,.tup [t1,.int .i64]),(7,.d t1),(8,.d (.int .i64)),(1,.reg t1),(2,.d (.int .i64)),(10,.tup [t1,.int .i64]),(9,.tup [t1,.int .i64]),(11,.d t1),(12,.d (.int .i64)),(3,.reg t1),(4,.d (.int .i64)),(13,.d (.int .i64)),(14,.d .bool),(15,.d .bool),(16,.d t1),(17,.d .str),(18,.d .bool),(19,.d .bool),(20,.d .bool),(21,.d (.int .i64)),(22,.d .bool),(23,.d .bool),(24,.d .bool),(25,.d t1),(26,.d .str),(27,.d .bool),(28,.d .bool)],
  []⟩
/- exchangepoint/exchangepointmake.Mod -/
noncomputable def hh16:Hints:=⟨[],[],[],[],[],[]⟩
noncomputable def vf16:VF:=vfOf Tryd.prog hh16 [0,1,4,5,10] [] Tryd.f16
noncomputable def fi16:FI:=⟨[(0,.d (.int .i64)),(1,.d (.int .i64)),(4,.d (.int .i64)),(6,.d (.int .i64)),(7,.d (.int .i64)),(8,.d (.int .i64)),(5,.d (.int .i64)),(9,.d (.int .i64)),(10,.d .bool),(11,.d (.int .i64)),(12,.d (.int .i64)),(13,.d (.int .i64)),(14,.d (.int .i64))],
  [.j [5]]⟩
/- exchangepoint/addr.Next -/
noncomputable def hh17:Hints:=⟨[],[(1,.r 1),(2,.r 2),(4,.r 1),(7,.r 1),(8,.r 1),(11,.r 1),(15,.r 1),(18,.r 1),(19,.r 1),(22,.r 1),(27,.r 1)],[],[33],[],[]⟩
noncomputable def vf17:VF:=vfOf Tryd.prog hh17 [0,1,2,3,14,35] [] Tryd.f17
noncomputable def fi17:FI:=⟨[(0,.d t1),(1,.reg t1),(2,.reg t1),(3,.d .bool),(4,.rp 1 2),(5,.d (.int .u64)),(6,.d (.int .u64)),(7,.rp 1 2),(8,.rp 1 0),(9,.d .bool),(10,.d .bool),(11,.rp 1 2),(12,.d (.int .u64)),(13,.d .bool),(14,.d .bool),(15,.rp 1 1),(16,.d (.int .u64)),(17,.d (.int .u64)),(18,.rp 1 1),(19,.rp 1 0),(20,.d .bool),(21,.d .bool),(22,.rp 1 1),(23,.d (.int .u64)),(24,.d .bool),(25,.d .bool),(26,.d .bool),(27,.rp 1 2),(28,.d (.int .u64)),(29,.d .bool),(30,.d .bool),(31,.d .bool),(32,.d t1),(33,.d .bool),(34,.d .bool),(35,.d .bool),(36,.d t1),(37,.d t1)],
  [.j [1,2],.n]⟩
/- exchangepoint/addr.Cmp -/
noncomputable def hh18:Hints:=⟨[],[(2,.r 2),(3,.r 3),(10,.r 2),(12,.r 3),(15,.r 2),(17,.r 3)],[],[6,8,9,14,19,21],[],[]⟩
noncomputable def vf18:VF:=vfOf Tryd.prog hh18 [0,1,2,3,4] [] Tryd.f18
noncomputable def fi18:FI:=⟨[(0,.d t1),(1,.d t1),(2,.reg t1),(3,.reg t1),(4,.d (.int .i64)),(5,.d t1),(6,.d (.int .i64)),(7,.d t1),(8,.d (.int .i64)),(9,.d (.int .i64)),(10,.rp 2 1),(11,.d (.int .u64)),(12,.rp 3 1),(13,.d (.int .u64)),(14,.d (.int .i64)),(15,.rp 2 2),(16,.d (.int .u64)),(17,.rp 3 2),(18,.d (.int .u64)),(19,.d (.int .i64)),(20,.d (.sl (.int .i64))),(21,.d (.int .i64))],
  []⟩
/- exchangepoint/exchangepointmake.Short -/
noncomputable def hh19:Hints:=⟨[],[],[],[],[],[]⟩
noncomputable def vf19:VF:=vfOf Tryd.prog hh19 [0,2] [] Tryd.f19
noncomputable def fi19:FI:=⟨[(0,.d (.sl (.int .u8))),(2,.d .bool),(3,.d (.sl (.int .u8))),(4,.d (.int .i64)),(5,.d .bool)],
  []⟩
/- exchangepoint/addr.Valid -/
noncomputable def hh20:Hints:=⟨[],[(3,.r 1),(6,.r 1),(10,.r 1)],[],[],[],[]⟩
noncomputable def vf20:VF:=vfOf Tryd.prog hh20 [0,1,2] [] Tryd.f20
noncomputable def fi20:FI:=⟨[(0,.d t1),(1,.reg t1),(2,.d .bool),(3,.rp 1 0),(4,.d .bool),(5,.d .bool),(6,.rp 1 1),(7,.d (.int .u64)),(8,.d .bool),(9,.d .bool),(10,.rp 1 2),(11,.d (.int .u64)),(12,.d .bool),(13,.d .bool),(14,.d .bool)],
  []⟩
/- exchangepoint/exchangepointref01.Valid -/
noncomputable def hh21:Hints:=⟨[],[(3,.r 1),(6,.r 1),(10,.r 1)],[],[],[],[]⟩
noncomputable def vf21:VF:=vfOf Tryd.prog hh21 [0,1,2] [] Tryd.f21
noncomputable def fi21:FI:=⟨[(0,.d t1),(1,.reg t1),(2,.d .bool),(3,.rp 1 0),(4,.d .bool),(5,.d .bool),(6,.rp 1 1),(7,.d (.int .u64)),(8,.d .bool),(9,.d .bool),(10,.rp 1 2),(11,.d (.int .u64)),(12,.d .bool),(13,.d .bool),(14,.d .bool)],
  []⟩
/- exchangepoint/exchangepointref01.Bytes -/
noncomputable def hh22:Hints:=⟨[],[(1,.r 1),(10,.r 1),(18,.r 1),(22,.r 1)],[],[8],[],[]⟩
noncomputable def vf22:VF:=vfOf Tryd.prog hh22 [0,1,2,3,4,5,6,9,11,15,21] [] Tryd.f22
noncomputable def fi22:FI:=⟨[(0,.d t1),(1,.reg t1),(2,.d (.sl (.int .u8))),(7,.d t1),(8,.d .bool),(9,.d .bool),(3,.d (.int .i64)),(10,.rp 1 0),(11,.d .bool),(4,.d (.sl (.int .u8))),(12,.d (.int .i64)),(13,.d (.int .i64)),(5,.d (.int .i64)),(14,.d (.int .i64)),(15,.d .bool),(18,.rp 1 2),(19,.d (.int .u64)),(6,.d (.int .u64)),(20,.d (.int .i64)),(21,.d .bool),(22,.rp 1 1),(23,.d (.int .u64)),(24,.d (.sl (.int .u8))),(25,.d (.int .u64)),(26,.d (.int .i64)),(27,.d (.int .i64)),(28,.d (.int .u64)),(29,.d (.int .u64)),(30,.d (.int .u64)),(31,.d (.int .u8)),(32,.d (.sl (.int .u8))),(33,.d (.sl (.int .u8))),(16,.d (.int .i64)),(17,.d (.int .i64)),(34,.d (.sl (.int .u8)))],
  [.n,.j [1,3],.j [4],.l [1,4,5] (some [(5,⟨[],none⟩),(4,⟨[(0,⟨[2176],true,true,true,true,none⟩)],none⟩),(1,⟨[],none⟩)]),.n,.n,.j [1,4,5,6]]⟩
/- exchangepoint/exchangepointref01.Next -/
noncomputable def hh23:Hints:=⟨[],[(1,.r 1),(2,.r 2),(4,.r 1),(7,.r 1),(8,.r 1),(11,.r 1),(14,.r 1),(15,.r 1),(18,.r 1),(23,.r 1),(28,.r 1),(32,.r 1)],[],[],[],[]⟩
noncomputable def vf23:VF:=vfOf Tryd.prog hh23 [0,1,2,3,10,36] [] Tryd.f23
noncomputable def fi23:FI:=⟨[(0,.d t1),(1,.reg t1),(2,.reg t1),(3,.d .bool),(4,.rp 1 2),(5,.d (.int .u64)),(6,.d (.int .u64)),(7,.rp 1 2),(8,.rp 1 2),(9,.d (.int .u64)),(10,.d .bool),(11,.rp 1 1),(12,.d (.int .u64)),(13,.d (.int .u64)),(14,.rp 1 1),(15,.rp 1 0),(16,.d .bool),(17,.d .bool),(18,.rp 1 1),(19,.d (.int .u64)),(20,.d .bool),(21,.d .bool),(22,.d .bool),(23,.rp 1 2),(24,.d (.int .u64)),(25,.d .bool),(26,.d .bool),(27,.d .bool),(28,.rp 1 0),(29,.d .bool),(30,.d .bool),(31,.d .bool),(32,.rp 1 2),(33,.d (.int .u64)),(34,.d .bool),(35,.d .bool),(36,.d .bool),(37,.d t1),(38,.d t1)],
  [.j [1,2],.n]⟩
/- exchangepoint/exchangepointref01.Cmp -/
noncomputable def hh24:Hints:=⟨[],[(2,.r 2),(3,.r 3),(10,.r 2),(12,.r 3),(15,.r 3),(18,.r 2),(20,.r 3),(24,.r 2),(26,.r 3),(30,.r 2),(32,.r 3)],[],[],[],[]⟩
noncomputable def vf24:VF:=vfOf Tryd.prog hh24 [0,1,2,3,4,5,9,16,17] [] Tryd.f24
noncomputable def fi24:FI:=⟨[(0,.d t1),(1,.d t1),(2,.reg t1),(3,.reg t1),(4,.d (.int .i64)),(6,.d t1),(7,.d t1),(8,.d .bool),(5,.d .bool),(10,.rp 2 0),(11,.d .bool),(12,.rp 3 0),(13,.d .bool),(14,.d .bool),(9,.d .bool),(15,.rp 3 0),(16,.d .bool),(18,.rp 2 1),(19,.d (.int .u64)),(20,.rp 3 1),(21,.d (.int .u64)),(22,.d .bool),(23,.d .bool),(24,.rp 2 1),(25,.d (.int .u64)),(26,.rp 3 1),(27,.d (.int .u64)),(28,.d .bool),(29,.d .bool),(30,.rp 2 2),(31,.d (.int .u64)),(32,.rp 3 2),(33,.d (.int .u64)),(34,.d .bool),(35,.d .bool),(36,.d .bool),(17,.d .bool)],
  [.n,.n,.n,.n,.n]⟩
/- exchangepoint/addr.FromBytes -/
noncomputable def hh25:Hints:=⟨[],[(2,.r 2),(4,.r 4),(24,.e []),(26,.r 4),(29,.r 4),(33,.r 4),(34,.r 4),(40,.r 4)],[],[],[],[]⟩
noncomputable def vf25:VF:=vfOf Tryd.prog hh25 [0,2,3,4,6,14,20,21,22,23] [] Tryd.f25
noncomputable def fi25:FI:=⟨[(0,.d (.sl (.int .u8))),(2,.reg t1),(3,.d (.int .i64)),(7,.d (.sl (.int .u8))),(8,.d (.int .i64)),(9,.d .bool),(10,.d .bool),(11,.d (.sl (.int .u8))),(12,.d (.int .i64)),(13,.d .bool),(14,.d .bool),(15,.d t1),(16,.d (.sl (.int .u8))),(17,.d (.int .i64)),(18,.d .bool),(19,.d t1),(4,.reg t1),(20,.d (.sl (.int .u8))),(21,.d (.int .i64)),(22,.d (.int .i64)),(23,.d .bool),(24,.ep (.int .u8) 0 (some (0,none))),(25,.d (.int .u8)),(6,.d (.int .u8)),(26,.rp 4 1),(27,.d (.int .u64)),(28,.d (.int .u64)),(29,.rp 4 2),(30,.d (.int .u64)),(31,.d (.int .u64)),(32,.d (.int .u64)),(33,.rp 4 1),(34,.rp 4 2),(35,.d (.int .u64)),(36,.d (.int .u64)),(37,.d (.int .u8)),(38,.d (.int .u64)),(39,.d (.int .u64)),(40,.rp 4 2),(41,.d (.int .i64)),(42,.d t1)],
  [.n,.j [2,4],.l [2,4,20,21,22] none,.n,.n]⟩
/- exchangepoint/exchangepointref01.FromBytes -/
noncomputable def hh26:Hints:=⟨[],[(2,.r 2),(4,.r 4),(24,.e []),(26,.r 4),(29,.r 4),(33,.r 4),(34,.r 4),(40,.r 4)],[],[],[],[]⟩
noncomputable def vf26:VF:=vfOf Tryd.prog hh26 [0,2,3,4,6,14,20,21,22,23] [] Tryd.f26
noncomputable def fi26:FI:=⟨[(0,.d (.sl (.int .u8))),(2,.reg t1),(3,.d (.int .i64)),(7,.d (.sl (.int .u8))),(8,.d (.int .i64)),(9,.d .bool),(10,.d .bool),(11,.d (.sl (.int .u8))),(12,.d (.int .i64)),(13,.d .bool),(14,.d .bool),(15,.d t1),(16,.d (.sl (.int .u8))),(17,.d (.int .i64)),(18,.d .bool),(19,.d t1),(4,.reg t1),(20,.d (.sl (.int .u8))),(21,.d (.int .i64)),(22,.d (.int .i64)),(23,.d .bool),(24,.ep (.int .u8) 0 (some (0,none))),(25,.d (.int .u8)),(6,.d (.int .u8)),(26,.rp 4 1),(27,.d (.int .u64)),(28,.d (.int .u64)),(29,.rp 4 2),(30,.d (.int .u64)),(31,.d (.int .u64)),(32,.d (.int .u64)),(33,.rp 4 1),(34,.rp 4 2),(35,.d (.int .u64)),(36,.d (.int .u64)),(37,.d (.int .u8)),(38,.d (.int .u64)),(39,.d (.int .u64)),(40,.rp 4 2),(41,.d (.int .i64)),(42,.d t1)],
  [.n,.j [2,4],.l [2,4,20,21,22] none,.n,.n]⟩
/- exchangepoint/addr.Parse -/
noncomputable def hh27:Hints:=⟨[],[(2,.r 2),(4,.r 4),(8,.r 8),(36,.e []),(38,.r 8),(41,.r 8),(45,.r 8),(46,.r 8),(51,.r 8)],[],[12,16,25],[],[]⟩
noncomputable def vf27:VF:=vfOf Tryd.prog hh27 [0,2,3,4,5,6,7,8,10,13,20,29,32,33,34,35] [] Tryd.f27
noncomputable def fi27:FI:=⟨[(0,.d .str),(2,.reg t1),(3,.d (.int .i64)),(11,.d .str),(12,.d .bool),(13,.d .bool),(15,.d .str),(16,.tup [t1,.bool]),(14,.tup [t1,.bool]),(17,.d t1),(18,.d .bool),(4,.reg t1),(5,.d .bool),(19,.d .bool),(20,.d .bool),(21,.d t1),(22,.d t1),(24,.d .str),(25,.tup [.sl (.int .u64),.bool]),(23,.tup [.sl (.int .u64),.bool]),(26,.d (.sl (.int .u64))),(27,.d .bool),(6,.d (.sl (.int .u64))),(7,.d .bool),(28,.d .bool),(29,.d .bool),(30,.d t1),(31,.d t1),(8,.reg t1),(32,.d (.sl (.int .u64))),(33,.d (.int .i64)),(34,.d (.int .i64)),(35,.d .bool),(36,.ep (.int .u64) 0 (some (6,none))),(37,.d (.int .u64)),(10,.d (.int .u64)),(38,.rp 8 1),(39,.d (.int .u64)),(40,.d (.int .u64)),(41,.rp 8 2),(42,.d (.int .u64)),(43,.d (.int .u64)),(44,.d (.int .u64)),(45,.rp 8 1),(46,.rp 8 2),(47,.d (.int .u64)),(48,.d (.int .u64)),(49,.d (.int .u64)),(50,.d (.int .u64)),(51,.rp 8 2),(52,.d (.int .i64)),(53,.d t1)],
  [.n,.n,.n,.j [2,8],.l [2,8,32,33,34] none,.n,.n]⟩
/- exchangepoint/exchangepointlaw01.text -/
noncomputable def hh28:Hints:=⟨[],[(18,.e []),(34,.e [])],[],[24,40,58],[],[]⟩
noncomputable def vf28:VF:=vfOf Tryd.prog hh28 [0,2,3,4,5,8,11,12,13,27,28,29,42,43,47,51,55] [] Tryd.f28
noncomputable def fi28:FI:=⟨[(0,.ptr 200000 0),(200000,.box (.st t2)),(2,.d .str),(6,.ptr 200000 0),(7,.d (.int .i64)),(8,.d .bool),(3,.d (.sl .str)),(9,.ptr 200000 0),(10,.d (.int .i64)),(11,.d (.int .i64)),(12,.d (.int .i64)),(13,.d .bool),(14,.d (.sl .str)),(15,.d (.sl .str)),(16,.ptr 200000 0),(17,.d (.int .i64)),(18,.ep .str 0 (some (15,none))),(19,.d .str),(20,.d (.sl .str)),(21,.d (.sl .str)),(22,.d (.int .i64)),(23,.d (.sl .str)),(24,.d .str),(4,.d (.sl .str)),(25,.ptr 200000 0),(26,.d (.int .i64)),(27,.d (.int .i64)),(28,.d (.int .i64)),(29,.d .bool),(30,.d (.sl .str)),(31,.d (.sl .str)),(32,.ptr 200000 0),(33,.d (.int .i64)),(34,.ep .str 0 (some (31,none))),(35,.d .str),(36,.d (.sl .str)),(37,.d (.sl .str)),(38,.d (.int .i64)),(39,.d (.sl .str)),(40,.d .str),(5,.d .str),(41,.ptr 200000 0),(42,.d (.int .i64)),(44,.d .bool),(43,.d .bool),(45,.d .str),(46,.d .str),(48,.d .bool),(47,.d .bool),(49,.d .str),(50,.d .str),(52,.d .bool),(51,.d .bool),(53,.d .str),(54,.d .str),(56,.d .bool),(55,.d .bool),(57,.d .str),(58,.d .str),(59,.d .str)],
  [.n,.j [3,200000],.l [3,11,12,200000] (some [(12,⟨[],none⟩),(11,⟨[],none⟩),(3,⟨[(0,⟨[1408],true,true,true,true,none⟩)],none⟩),(0,⟨[],none⟩),(200000,⟨[],none⟩)]),.n,.n,.j [4,200000],.l [4,27,28,200000] (some [(28,⟨[],none⟩),(27,⟨[],none⟩),(4,⟨[(0,⟨[2432],true,true,true,true,none⟩)],none⟩),(0,⟨[],none⟩),(200000,⟨[],none⟩)]),.n,.n,.j [5,200000],.j [5,200000],.j [5,200000],.j [5,200000],.j [5,200000]]⟩
/- (*exchangepoint/exchangepointmake.Deck).Next -/
noncomputable def hh30:Hints:=⟨[],[(31,.e [])],[],[34],[],[]⟩
noncomputable def vf30:VF:=vfOf Tryd.prog hh30 [0,1,4,14] [] Tryd.f30
noncomputable def fi30:FI:=⟨[(0,.ptr 200000 0),(200000,.box (.st t2)),(1,.d (.int .i64)),(4,.d (.int .i64)),(5,.ptr 200000 0),(6,.ptr 200000 0),(7,.ptr 200000 1),(8,.d (.int .i64)),(9,.ptr 200000 0),(10,.ptr 200000 0),(11,.ptr 200000 0),(12,.d (.sl (.int .i64))),(13,.d (.int .i64)),(14,.d .bool),(15,.ptr 200000 0),(16,.ptr 200000 0),(17,.ptr 200000 1),(18,.d (.int .i64)),(19,.d (.int .i64)),(20,.ptr 200000 0),(21,.ptr 200000 1),(22,.ptr 200000 0),(23,.ptr 200000 0),(24,.ptr 200000 0),(25,.d (.sl (.int .i64))),(26,.ptr 200000 0),(27,.ptr 200000 0),(28,.ptr 200000 1),(29,.d (.int .i64)),(30,.d (.int .i64)),(31,.ep (.int .i64) 0 (some (25,none))),(32,.d (.int .i64)),(33,.d (.int .i64)),(34,.d (.int .i64))],
  [.n]⟩
/- exchangepoint/addr.groups -/
noncomputable def hh33:Hints:=⟨[],[(2,.r 2),(9,.r 1),(12,.r 2),(13,.r 1),(16,.r 1),(20,.r 1),(21,.r 1),(24,.r 1)],[],[],[],[]⟩
noncomputable def vf33:VF:=vfOf Tryd.prog hh33 [0,1,2,3,5] [] Tryd.f33
noncomputable def fi33:FI:=⟨[(0,.d t1),(1,.reg t1),(2,.reg (.st t8)),(3,.d (.int .i64)),(4,.d (.int .i64)),(5,.d .bool),(8,.d (.int .i64)),(9,.rp 1 2),(10,.d (.int .u64)),(11,.d (.int .u64)),(12,.rx 2 0 8 (.int .u64)),(13,.rp 1 2),(14,.d (.int .u64)),(15,.d (.int .u64)),(16,.rp 1 1),(17,.d (.int .u64)),(18,.d (.int .u64)),(19,.d (.int .u64)),(20,.rp 1 2),(21,.rp 1 1),(22,.d (.int .u64)),(23,.d (.int .u64)),(24,.rp 1 1),(6,.d (.int .i64)),(7,.d (.int .i64)),(25,.d (.st t8))],
  [.j [2],.l [1,2,3] none,.n,.n]⟩
/- exchangepoint/addr.longest -/
noncomputable def hh34:Hints:=⟨[],[(15,.r 1)],[],[],[],[]⟩
noncomputable def vf34:VF:=vfOf Tryd.prog hh34 [0,1,2,3,4,5,7,18,26] [] Tryd.f34
noncomputable def fi34:FI:=⟨[(0,.d (.st t8)),(1,.reg (.st t8)),(2,.d (.int .i64)),(3,.d (.int .i64)),(4,.d (.int .i64)),(6,.d (.int .i64)),(7,.d .bool),(10,.d (.int .i64)),(5,.d (.int .i64)),(11,.d (.int .i64)),(12,.d .bool),(13,.d .bool),(14,.d (.int .i64)),(15,.rx 1 0 8 (.int .u64)),(16,.d (.int .u64)),(17,.d .bool),(18,.d .bool),(19,.d (.int .i64)),(20,.d (.int .i64)),(21,.d (.int .i64)),(22,.d (.int .i64)),(23,.d (.int .i64)),(24,.d (.int .i64)),(25,.d (.int .i64)),(26,.d .bool),(27,.d (.int .i64)),(28,.d (.int .i64)),(29,.d (.int .i64)),(30,.d (.int .i64)),(8,.d (.int .i64)),(9,.d (.int .i64)),(31,.d (.int .i64)),(32,.d (.int .i64))],
  [.j [2,3],.l [1,2,3,4] none,.n,.j [1,2,3,4],.j [1,2,3,4,5],.l [1,2,3,4,5] (some [(5,⟨[],none⟩),(4,⟨[],none⟩),(3,⟨[],none⟩),(2,⟨[],none⟩),(1,⟨[],none⟩)]),.n,.n,.j [1,2,3,4]]⟩
/- exchangepoint/addr.hex -/
noncomputable def hh35:Hints:=⟨[],[(10,.e [])],[],[14,19],[],[]⟩
noncomputable def vf35:VF:=vfOf Tryd.prog hh35 [0,2,3,5,6,7,8,9] [] Tryd.f35
noncomputable def fi35:FI:=⟨[(0,.d (.sl (.int .u64))),(2,.d .str),(3,.d (.sl .str)),(6,.d (.sl (.int .u64))),(7,.d (.int .i64)),(8,.d (.int .i64)),(9,.d .bool),(10,.ep (.int .u64) 0 (some (0,none))),(11,.d (.int .u64)),(5,.d (.int .u64)),(12,.d (.sl .str)),(13,.d (.int .u64)),(14,.d .str),(15,.d (.sl .str)),(16,.d (.sl .str)),(17,.d (.int .i64)),(18,.d (.sl .str)),(19,.d .str)],
  [.j [3],.l [3,6,7,8] (some [(8,⟨[],none⟩),(7,⟨[],none⟩),(6,⟨[],some (0,none)⟩),(3,⟨[(0,⟨[1088],true,true,true,true,none⟩)],none⟩)]),.n,.n]⟩
/- cmp.Or[int] -/
noncomputable def hh40:Hints:=⟨[],[(10,.e [])],[],[],[],[]⟩
noncomputable def vf40:VF:=vfOf Tryd.prog hh40 [0,2,3,5,6,7,8,9,14] [] Tryd.f40
noncomputable def fi40:FI:=⟨[(0,.d (.sl (.int .i64))),(2,.d (.int .i64)),(3,.d (.int .i64)),(6,.d (.sl (.int .i64))),(7,.d (.int .i64)),(8,.d (.int .i64)),(9,.d .bool),(10,.ep (.int .i64) 0 (some (0,none))),(11,.d (.int .i64)),(5,.d (.int .i64)),(12,.d (.int .i64)),(13,.d (.int .i64)),(14,.d .bool),(15,.d (.int .i64)),(16,.d (.int .i64)),(17,.d (.int .i64))],
  [.j [3],.l [3,6,7,8] none,.n,.n,.n]⟩
/- cmp.Compare[int] -/
noncomputable def hh41:Hints:=⟨[],[],[],[8,10],[],[]⟩
noncomputable def vf41:VF:=vfOf Tryd.prog hh41 [0,1,4,5,6,11,12,13,16,19] [] Tryd.f41
noncomputable def fi41:FI:=⟨[(0,.d (.int .i64)),(1,.d (.int .i64)),(4,.d (.int .i64)),(7,.d (.int .i64)),(8,.d .bool),(5,.d .bool),(9,.d (.int .i64)),(10,.d .bool),(6,.d .bool),(11,.d .bool),(12,.d .bool),(13,.d .bool),(14,.d (.int .i64)),(15,.d (.int .i64)),(16,.d .bool),(17,.d (.int .i64)),(18,.d (.int .i64)),(19,.d .bool)],
  [.n,.n,.n,.n,.n]⟩
/- exchangepoint/addr.family -/
noncomputable def hh42:Hints:=⟨[],[(3,.r 1)],[],[],[],[]⟩
noncomputable def vf42:VF:=vfOf Tryd.prog hh42 [0,1,2,4] [] Tryd.f42
noncomputable def fi42:FI:=⟨[(0,.d t1),(1,.reg t1),(2,.d (.int .i64)),(3,.rp 1 0),(4,.d .bool)],
  [.n]⟩
/- cmp.Compare[uint64] -/
noncomputable def hh43:Hints:=⟨[],[],[],[8,10],[],[]⟩
noncomputable def vf43:VF:=vfOf Tryd.prog hh43 [0,1,4,5,6,11,12,13,16,19] [] Tryd.f43
noncomputable def fi43:FI:=⟨[(0,.d (.int .u64)),(1,.d (.int .u64)),(4,.d (.int .i64)),(7,.d (.int .u64)),(8,.d .bool),(5,.d .bool),(9,.d (.int .u64)),(10,.d .bool),(6,.d .bool),(11,.d .bool),(12,.d .bool),(13,.d .bool),(14,.d (.int .u64)),(15,.d (.int .u64)),(16,.d .bool),(17,.d (.int .u64)),(18,.d (.int .u64)),(19,.d .bool)],
  [.n,.n,.n,.n,.n]⟩
/- exchangepoint/addr.four -/
noncomputable def hh44:Hints:=⟨[],[(2,.r 2),(5,.r 5),(20,.e []),(44,.r 5),(50,.r 5)],[],[11,24,39],[],[]⟩
noncomputable def vf44:VF:=vfOf Tryd.prog hh44 [0,2,3,4,5,7,8,9,14,16,17,18,19,42] [] Tryd.f44
noncomputable def fi44:FI:=⟨[(0,.d .str),(2,.reg t1),(3,.d .bool),(10,.d .str),(11,.d (.sl .str)),(4,.d (.sl .str)),(12,.d (.sl .str)),(13,.d (.int .i64)),(14,.d .bool),(15,.d t1),(5,.reg t1),(16,.d (.sl .str)),(17,.d (.int .i64)),(18,.d (.int .i64)),(19,.d .bool),(20,.ep .str 0 (some (4,none))),(21,.d .str),(7,.d .str),(23,.d .str),(24,.tup [.int .i64,.err]),(22,.tup [.int .i64,.err]),(25,.d (.int .i64)),(26,.d .err),(8,.d (.int .i64)),(9,.d .err),(27,.d .err),(28,.d .bool),(29,.d .bool),(30,.d (.int .i64)),(31,.d .bool),(32,.d .bool),(33,.d .bool),(34,.d (.int .i64)),(35,.d .bool),(36,.d .bool),(37,.d .bool),(38,.d (.int .i64)),(39,.d .str),(40,.d .str),(41,.d .bool),(42,.d .bool),(43,.d t1),(44,.rp 5 2),(45,.d (.int .u64)),(46,.d (.int .u64)),(47,.d (.int .i64)),(48,.d (.int .u64)),(49,.d (.int .u64)),(50,.rp 5 2),(51,.d (.int .i64)),(52,.d t1)],
  [.n,.j [2,5],.l [2,5,16,17,18] none,.n,.n,.n]⟩
/- exchangepoint/addr.sixteen -/
noncomputable def hh45:Hints:=⟨[],[],[],[15,23,35,40],[],[]⟩
noncomputable def vf45:VF:=vfOf Tryd.prog hh45 [0,2,3,4,5,6,7,8,9,10,11,12,20,56] [] Tryd.f45
noncomputable def fi45:FI:=⟨[(0,.d .str),(2,.d (.sl (.int .u64))),(3,.d .bool),(14,.d .str),(15,.tup [.str,.str,.bool]),(13,.tup [.str,.str,.bool]),(16,.d .str),(17,.d .str),(18,.d .bool),(4,.d .str),(5,.d .str),(6,.d .bool),(19,.d .bool),(20,.d .bool),(22,.d .str),(23,.tup [.sl (.int .u64),.bool]),(21,.tup [.sl (.int .u64),.bool]),(24,.d (.sl (.int .u64))),(25,.d .bool),(7,.d (.sl (.int .u64))),(8,.d .bool),(26,.d (.sl (.int .u64))),(27,.d .bool),(28,.d .bool),(29,.d (.sl (.int .u64))),(30,.d (.int .i64)),(31,.d .bool),(32,.d .bool),(34,.d .str),(35,.tup [.sl (.int .u64),.bool]),(33,.tup [.sl (.int .u64),.bool]),(36,.d (.sl (.int .u64))),(37,.d .bool),(9,.d (.sl (.int .u64))),(10,.d .bool),(39,.d .str),(40,.tup [.sl (.int .u64),.bool]),(38,.tup [.sl (.int .u64),.bool]),(41,.d (.sl (.int .u64))),(42,.d .bool),(11,.d (.sl (.int .u64))),(12,.d .bool),(43,.d .bool),(44,.d .bool),(45,.d .bool),(46,.d .bool),(47,.d .bool),(48,.d .bool),(49,.d .bool),(50,.d (.sl (.int .u64))),(51,.d (.int .i64)),(52,.d (.sl (.int .u64))),(53,.d (.int .i64)),(54,.d (.int .i64)),(55,.d .bool),(56,.d .bool),(57,.d (.sl (.int .u64))),(58,.d (.sl (.int .u64))),(59,.d (.int .i64)),(60,.d (.int .i64)),(61,.d (.sl (.int .u64))),(62,.d (.int .i64)),(63,.d (.int .i64)),(64,.d (.sl (.int .u64))),(65,.d (.sl (.int .u64))),(66,.d (.sl (.int .u64)))],
  [.n,.n]⟩
/- strconv.FormatUint -/
noncomputable def hh54:Hints:=⟨[],[],[],[7],[],[]⟩
noncomputable def vf54:VF:=vfOf Tryd.prog hh54 [0,1,4] [] Tryd.f54
noncomputable def fi54:FI:=⟨[(0,.d (.int .u64)),(1,.d (.int .i64)),(4,.d .str),(5,.d (.int .u64)),(6,.d (.int .i64)),(7,.d .str)],
  []⟩
/- cmp.isNaN[int] -/
noncomputable def hh57:Hints:=⟨[],[],[],[],[],[]⟩
noncomputable def vf57:VF:=vfOf Tryd.prog hh57 [0,2] [] Tryd.f57
noncomputable def fi57:FI:=⟨[(0,.d (.int .i64)),(2,.d .bool),(3,.d (.int .i64)),(4,.d (.int .i64)),(5,.d .bool)],
  []⟩
/- cmp.isNaN[uint64] -/
noncomputable def hh58:Hints:=⟨[],[],[],[],[],[]⟩
noncomputable def vf58:VF:=vfOf Tryd.prog hh58 [0,2] [] Tryd.f58
noncomputable def fi58:FI:=⟨[(0,.d (.int .u64)),(2,.d .bool),(3,.d (.int .u64)),(4,.d (.int .u64)),(5,.d .bool)],
  []⟩
/- exchangepoint/addr.list -/
noncomputable def hh61:Hints:=⟨[],[(23,.e []),(10,.r 10),(42,.r 10),(45,.r 10)],[],[17,27,52],[],[]⟩
noncomputable def vf61:VF:=vfOf Tryd.prog hh61 [0,1,4,5,6,7,8,9,10,11,12,13,15,18,19,20,21,40,56] [] Tryd.f61
noncomputable def fi61:FI:=⟨[(0,.d .str),(1,.d .bool),(4,.d (.sl (.int .u64))),(5,.d .bool),(14,.d .str),(15,.d .bool),(6,.d (.sl (.int .u64))),(16,.d .str),(17,.d (.sl .str)),(7,.d (.sl .str)),(18,.d (.sl .str)),(19,.d (.int .i64)),(20,.d (.int .i64)),(21,.d .bool),(22,.d (.int .i64)),(23,.ep .str 0 (some (7,none))),(24,.d .str),(8,.d (.int .i64)),(9,.d .str),(26,.d .str),(27,.tup [t1,.bool]),(25,.tup [t1,.bool]),(28,.d t1),(29,.d .bool),(10,.reg t1),(11,.d .bool),(30,.d .bool),(31,.d .bool),(32,.d .bool),(33,.d .bool),(34,.d .bool),(35,.d (.int .i64)),(36,.d (.sl .str)),(37,.d (.int .i64)),(38,.d (.int .i64)),(39,.d .bool),(40,.d .bool),(41,.d (.sl (.int .u64))),(42,.rp 10 2),(43,.d (.int .u64)),(44,.d (.int .u64)),(45,.rp 10 2),(46,.d (.int .u64)),(47,.d (.int .u64)),(48,.d (.sl (.int .u64))),(49,.d (.sl (.int .u64))),(51,.d .str),(52,.tup [.int .u64,.bool]),(50,.tup [.int .u64,.bool]),(53,.d (.int .u64)),(54,.d .bool),(12,.d (.int .u64)),(13,.d .bool),(55,.d .bool),(56,.d .bool),(57,.d (.sl (.int .u64))),(58,.d (.int .u64)),(59,.d (.sl (.int .u64))),(60,.d (.sl (.int .u64))),(61,.d (.int .i64)),(62,.d (.sl (.int .u64)))],
  [.n,.j [6],.l [1,6,7,18,19,20] (some [(20,⟨[],none⟩),(19,⟨[],none⟩),(18,⟨[(0,⟨[1152],true,false,false,false,none⟩)],some (7,none)⟩),(7,⟨[(0,⟨[1152],true,false,false,false,none⟩)],none⟩),(6,⟨[(0,⟨[3904,3200],true,true,true,true,none⟩)],none⟩),(1,⟨[],none⟩)]),.n,.j [1,6,7,18,19,20],.n,.n]⟩
/- internal/strconv.FormatUint -/
noncomputable def hh70:Hints:=⟨[],[(5,.r 5)],[],[15,17,21,28],[],[84,85,86]⟩
noncomputable def vf70:VF:=vfOf Tryd.prog hh70 [0,1,4,5,6,8,10,12] [] Tryd.f70
noncomputable def fi70:FI:=⟨[(0,.d (.int .u64)),(1,.d (.int .i64)),(4,.d .str),(9,.d (.int .i64)),(10,.d .bool),(11,.d (.int .u64)),(12,.d .bool),(13,.d (.int .u64)),(14,.d (.int .i64)),(15,.d .str),(5,.reg t10),(16,.d (.int .u64)),(17,.d (.int .i64)),(6,.d (.int .i64)),(18,.d (.int .i64)),(19,.d (.sl (.int .u8))),(20,.d (.int .u64)),(21,.tup []),(22,.d (.int .i64)),(23,.d (.sl (.int .u8))),(24,.d .str),(26,.d (.int .u64)),(27,.d (.int .i64)),(28,.tup [.sl (.int .u8),.str]),(25,.tup [.sl (.int .u8),.str]),(29,.d (.sl (.int .u8))),(30,.d .str),(7,.d (.sl (.int .u8))),(8,.d .str),(31,.d .str)],
  [.n,.n]⟩
/- exchangepoint/addr.digits -/
noncomputable def hh78:Hints:=⟨[],[(21,.e [])],[],[24],[],[]⟩
noncomputable def vf78:VF:=vfOf Tryd.prog hh78 [0,2,3,4,6,7,15,17,18,19,20,30,36] [] Tryd.f78
noncomputable def fi78:FI:=⟨[(0,.d .str),(2,.d (.int .u64)),(3,.d .bool),(8,.d .str),(9,.d (.int .i64)),(10,.d .bool),(11,.d .bool),(12,.d .str),(13,.d (.int .i64)),(14,.d .bool),(15,.d .bool),(4,.d (.int .u64)),(16,.d .str),(17,.d (.sl (.int .u8))),(18,.d (.int .i64)),(19,.d (.int .i64)),(20,.d .bool),(21,.ep (.int .u8) 0 (some (17,none))),(22,.d (.int .u8)),(6,.d (.int .u8)),(23,.d (.int .u8)),(24,.d (.int .i64)),(7,.d (.int .i64)),(25,.d (.int .u8)),(26,.d .bool),(27,.d .bool),(28,.d (.int .u8)),(29,.d .bool),(30,.d .bool),(31,.d (.int .u8)),(32,.d (.int .u8)),(33,.d (.int .i64)),(34,.d (.int .i64)),(35,.d (.int .i64)),(36,.d .bool),(37,.d (.int .u64)),(38,.d (.int .u64)),(39,.d (.int .i64)),(40,.d (.int .u64)),(41,.d (.int .u64)),(42,.d (.int .i64)),(43,.d (.int .u64))],
  [.n,.j [4],.l [4,17,18,19] none,.n,.n,.j [4,7,17,18,19],.n]⟩
/- internal/strconv.formatBits -/
noncomputable def hh87:Hints:=⟨[],[(12,.r 12),(54,.r 12),(63,.r 12),(81,.r 12),(88,.r 12),(93,.r 12)],[],[34,37],[],[]⟩
noncomputable def vf87:VF:=vfOf Tryd.prog hh87 [0,1,2,3,4,10,11,12,13,14,15,16,17,18,28,30,34,46,68,89,94] [0] Tryd.f87
noncomputable def fi87:FI:=⟨[(0,.d (.sl (.int .u8))),(1,.d (.int .u64)),(2,.d (.int .i64)),(3,.d .bool),(4,.d .bool),(10,.d (.sl (.int .u8))),(11,.d .str),(19,.d (.int .i64)),(20,.d .bool),(21,.d .bool),(22,.d (.int .i64)),(23,.d .bool),(24,.d .bool),(25,.d .bool),(26,.d (.int .i64)),(27,.d .bool),(28,.d .bool),(29,.d .err),(12,.reg t11),(13,.d (.int .i64)),(30,.d .bool),(31,.d (.int .u64)),(32,.d (.int .u64)),(33,.d (.int .i64)),(34,.d .bool),(35,.d (.int .i64)),(36,.d (.int .u64)),(37,.d (.int .i64)),(38,.d (.int .u64)),(14,.d (.int .u64)),(39,.d (.int .i64)),(40,.d (.int .u64)),(15,.d (.int .u64)),(41,.d (.int .i64)),(42,.d (.int .u64)),(43,.d (.int .u64)),(16,.d (.int .u64)),(44,.d (.int .u64)),(45,.d (.int .u64)),(46,.d .bool),(47,.d (.int .i64)),(48,.d (.int .i64)),(49,.d (.int .i64)),(50,.d (.int .u64)),(51,.d (.int .u64)),(52,.d (.int .u64)),(53,.d (.int .u8)),(54,.rx 12 0 65 (.int .u8)),(55,.d (.int .u64)),(56,.d (.int .u64)),(57,.d (.int .u64)),(58,.d (.int .i64)),(59,.d (.int .i64)),(60,.d (.int .i64)),(61,.d (.int .u64)),(62,.d (.int .u8)),(63,.rx 12 0 65 (.int .u8)),(64,.d (.int .i64)),(65,.d (.int .u64)),(17,.d (.int .u64)),(66,.d (.int .u64)),(67,.d (.int .u64)),(68,.d .bool),(69,.d (.int .i64)),(70,.d (.int .i64)),(71,.d (.int .u64)),(72,.d (.int .u64)),(73,.d (.int .u64)),(18,.d (.int .u64)),(74,.d (.int .i64)),(75,.d (.int .u64)),(76,.d (.int .u64)),(77,.d (.int .u64)),(78,.d (.int .u64)),(79,.d (.int .u64)),(80,.d (.int .u8)),(81,.rx 12 0 65 (.int .u8)),(82,.d (.int .u64)),(83,.d (.int .i64)),(84,.d (.int .i64)),(85,.d (.int .i64)),(86,.d (.int .u64)),(87,.d (.int .u8)),(88,.rx 12 0 65 (.int .u8)),(89,.d .bool),(90,.d (.int .i64)),(91,.d (.int .i64)),(92,.d (.int .i64)),(93,.rx 12 0 65 (.int .u8)),(94,.d .bool),(95,.d (.sl (.int .u8))),(96,.d (.int .i64)),(97,.d (.sl (.int .u8))),(98,.d (.sl (.int .u8))),(99,.d (.int .i64)),(100,.d (.sl (.int .u8))),(101,.d .str)],
  [.j [0,1,2,3,4,10,11],.j [0,1,2,3,4,10,11,12,13],.j [0,3,4,10,11,12,13],.j [0,1,3,4,10,11,12,13],.l [0,1,3,4,10,11,12,13,14,15,16] none,.n,.n,.j [0,1,3,4,10,11,12,13],.l [0,1,3,4,10,11,12,13,17] none,.n,.n,.j [0,4,10,11,12,13],.n]⟩
/- internal/strconv.isPowerOfTwo -/
noncomputable def hh102:Hints:=⟨[],[],[],[],[],[]⟩
noncomputable def vf102:VF:=vfOf Tryd.prog hh102 [0,2] [] Tryd.f102
noncomputable def fi102:FI:=⟨[(0,.d (.int .i64)),(2,.d .bool),(3,.d (.int .i64)),(4,.d (.int .i64)),(5,.d (.int .i64)),(6,.d (.int .i64)),(7,.d .bool)],
  []⟩
noncomputable def FT:Nat→Option Entry
  | 3=>some (.code vf3)
  | 4=>some (.code vf4)
  | 5=>some (.code vf5)
  | 6=>some (.code vf6)
  | 7=>some (.code vf7)
  | 8=>some (.code vf8)
  | 9=>some (.code vf9)
  | 10=>some (.code vf10)
  | 11=>some (.code vf11)
  | 15=>some (.code vf15)
  | 16=>some (.code vf16)
  | 17=>some (.code vf17)
  | 18=>some (.code vf18)
  | 19=>some (.code vf19)
  | 20=>some (.code vf20)
  | 21=>some (.code vf21)
  | 22=>some (.code vf22)
  | 23=>some (.code vf23)
  | 24=>some (.code vf24)
  | 25=>some (.code vf25)
  | 26=>some (.code vf26)
  | 27=>some (.code vf27)
  | 28=>some (.code vf28)
  | 30=>some (.code vf30)
  | 33=>some (.code vf33)
  | 34=>some (.code vf34)
  | 35=>some (.code vf35)
  | 40=>some (.code vf40)
  | 41=>some (.code vf41)
  | 42=>some (.code vf42)
  | 43=>some (.code vf43)
  | 44=>some (.code vf44)
  | 45=>some (.code vf45)
  | 54=>some (.code vf54)
  | 57=>some (.code vf57)
  | 58=>some (.code vf58)
  | 61=>some (.code vf61)
  | 70=>some (.code vf70)
  | 78=>some (.code vf78)
  | 87=>some (.code vf87)
  | 102=>some (.code vf102)
  | 12=>some (.prim [] (pF gCount))
  | 13=>some (.prim [] (pF gContains))
  | 14=>some (.prim [] (pF gSplit))
  | 29=>some (.prim [] (pF gLower))
  | 31=>some (.prim [] (pF gItoa))
  | 32=>some (.prim [] pJoin)
  | 46=>some (.prim [] (pF gReplace))
  | 59=>some (.prim [] (pF (gAtoi 126)))
  | 60=>some (.prim [] (pF gCut))
  | 95=>some (.prim [] pIndexByte)
  | 103=>some (.prim [] (pF gTZ))
  | _=>none
noncomputable def sgN:Nat→Sg
  | 12=>⟨[.d .str,.d .str],[(.int .i64,[])],none⟩
  | 13=>⟨[.d .str,.d .str],[(.bool,[])],none⟩
  | 14=>⟨[.d .str,.d .str],[(.sl .str,[])],none⟩
  | 29=>⟨[.d .str],[(.str,[])],none⟩
  | 31=>⟨[.d (.int .i64)],[(.str,[])],none⟩
  | 32=>⟨[.d (.sl .str),.d .str],[(.str,[])],none⟩
  | 46=>⟨[.d .str,.d .str,.d .str,.d (.int .i64)],[(.str,[])],none⟩
  | 59=>⟨[.d .str],[(.int .i64,[]),(.err,[])],none⟩
  | 60=>⟨[.d .str,.d .str],[(.str,[]),(.str,[]),(.bool,[])],none⟩
  | 95=>⟨[.d .str,.d (.int .u8)],[(.int .i64,[])],none⟩
  | 103=>⟨[.d (.int .u64)],[(.int .i64,[])],none⟩
  | 3=>⟨[.d (.sl (.int .i64))],[(.bool,[])],none⟩
  | 4=>⟨[.d (.sl (.int .i64)),.d (.int .i64)],[(.bool,[])],none⟩
  | 5=>⟨[.d (.sl (.int .i64))],[(.bool,[])],none⟩
  | 6=>⟨[.d t1,.d (.sl (.int .u8)),.d (.sl (.int .i64))],[(.bool,[])],none⟩
  | 7=>⟨[.d (.sl (.int .i64)),.d .str],[(.bool,[])],none⟩
  | 8=>⟨[.d (.sl (.int .i64))],[],some (.st t2)⟩
  | 9=>⟨[.p (.st t2)],[(t1,[])],none⟩
  | 10=>⟨[.d t1],[(.str,[])],none⟩
  | 11=>⟨[.d t1],[(.sl (.int .u8),[(0,true)])],none⟩
  | 15=>⟨[],[(.bool,[])],none⟩
  | 16=>⟨[.d (.int .i64),.d (.int .i64)],[(.int .i64,[])],none⟩
  | 17=>⟨[.d t1],[(t1,[]),(.bool,[])],none⟩
  | 18=>⟨[.d t1,.d t1],[(.int .i64,[])],none⟩
  | 19=>⟨[.d (.sl (.int .u8))],[(.bool,[])],none⟩
  | 20=>⟨[.d t1],[(.bool,[])],none⟩
  | 21=>⟨[.d t1],[(.bool,[])],none⟩
  | 22=>⟨[.d t1],[(.sl (.int .u8),[(0,true)])],none⟩
  | 23=>⟨[.d t1],[(t1,[]),(.bool,[])],none⟩
  | 24=>⟨[.d t1,.d t1],[(.int .i64,[])],none⟩
  | 25=>⟨[.d (.sl (.int .u8))],[(t1,[]),(.int .i64,[])],none⟩
  | 26=>⟨[.d (.sl (.int .u8))],[(t1,[]),(.int .i64,[])],none⟩
  | 27=>⟨[.d .str],[(t1,[]),(.int .i64,[])],none⟩
  | 28=>⟨[.p (.st t2)],[(.str,[])],none⟩
  | 30=>⟨[.p (.st t2),.d (.int .i64)],[(.int .i64,[])],none⟩
  | 33=>⟨[.d t1],[(.st t8,[])],none⟩
  | 34=>⟨[.d (.st t8)],[(.int .i64,[]),(.int .i64,[])],none⟩
  | 35=>⟨[.d (.sl (.int .u64))],[(.str,[])],none⟩
  | 40=>⟨[.d (.sl (.int .i64))],[(.int .i64,[])],none⟩
  | 41=>⟨[.d (.int .i64),.d (.int .i64)],[(.int .i64,[])],none⟩
  | 42=>⟨[.d t1],[(.int .i64,[])],none⟩
  | 43=>⟨[.d (.int .u64),.d (.int .u64)],[(.int .i64,[])],none⟩
  | 44=>⟨[.d .str],[(t1,[]),(.bool,[])],none⟩
  | 45=>⟨[.d .str],[(.sl (.int .u64),[(0,true)]),(.bool,[])],none⟩
  | 54=>⟨[.d (.int .u64),.d (.int .i64)],[(.str,[])],none⟩
  | 57=>⟨[.d (.int .i64)],[(.bool,[])],none⟩
  | 58=>⟨[.d (.int .u64)],[(.bool,[])],none⟩
  | 61=>⟨[.d .str,.d .bool],[(.sl (.int .u64),[(0,true)]),(.bool,[])],none⟩
  | 70=>⟨[.d (.int .u64),.d (.int .i64)],[(.str,[])],none⟩
  | 78=>⟨[.d .str],[(.int .u64,[]),(.bool,[])],none⟩
  | 87=>⟨[.d (.sl (.int .u8)),.d (.int .u64),.d (.int .i64),.d .bool,.d .bool],[(.sl (.int .u8),[(0,false)]),(.str,[])],none⟩
  | 102=>⟨[.d (.int .i64)],[(.bool,[])],none⟩
  | _=>⟨[],[],none⟩
noncomputable def vsN:Nat→Sig
  | 3=>⟨[],false⟩
  | 4=>⟨[],false⟩
  | 5=>⟨[],false⟩
  | 6=>⟨[],false⟩
  | 7=>⟨[],false⟩
  | 8=>⟨[],true⟩
  | 9=>⟨[],false⟩
  | 10=>⟨[],true⟩
  | 11=>⟨[],true⟩
  | 15=>⟨[],true⟩
  | 16=>⟨[],true⟩
  | 17=>⟨[],true⟩
  | 18=>⟨[],true⟩
  | 19=>⟨[],true⟩
  | 20=>⟨[],true⟩
  | 21=>⟨[],true⟩
  | 22=>⟨[],true⟩
  | 23=>⟨[],true⟩
  | 24=>⟨[],true⟩
  | 25=>⟨[],true⟩
  | 26=>⟨[],true⟩
  | 27=>⟨[],true⟩
  | 28=>⟨[],false⟩
  | 30=>⟨[],false⟩
  | 33=>⟨[],true⟩
  | 34=>⟨[],true⟩
  | 35=>⟨[],true⟩
  | 40=>⟨[],true⟩
  | 41=>⟨[],true⟩
  | 42=>⟨[],true⟩
  | 43=>⟨[],true⟩
  | 44=>⟨[],true⟩
  | 45=>⟨[],true⟩
  | 54=>⟨[],true⟩
  | 57=>⟨[],true⟩
  | 58=>⟨[],true⟩
  | 61=>⟨[],true⟩
  | 70=>⟨[],true⟩
  | 78=>⟨[],true⟩
  | 87=>⟨[0],true⟩
  | 102=>⟨[],true⟩
  | 12=>⟨[],true⟩
  | 13=>⟨[],true⟩
  | 14=>⟨[],true⟩
  | 29=>⟨[],true⟩
  | 31=>⟨[],true⟩
  | 32=>⟨[],true⟩
  | 46=>⟨[],true⟩
  | 59=>⟨[],true⟩
  | 60=>⟨[],true⟩
  | 95=>⟨[],true⟩
  | 103=>⟨[],true⟩
  | _=>⟨[],false⟩
noncomputable def TN:(f:Nat)→NE (sgN f)
  | 3=>.code fi3 vf3
  | 4=>.code fi4 vf4
  | 5=>.code fi5 vf5
  | 6=>.code fi6 vf6
  | 7=>.code fi7 vf7
  | 8=>.code fi8 vf8
  | 9=>.code fi9 vf9
  | 10=>.code fi10 vf10
  | 11=>.code fi11 vf11
  | 15=>.code fi15 vf15
  | 16=>.code fi16 vf16
  | 17=>.code fi17 vf17
  | 18=>.code fi18 vf18
  | 19=>.code fi19 vf19
  | 20=>.code fi20 vf20
  | 21=>.code fi21 vf21
  | 22=>.code fi22 vf22
  | 23=>.code fi23 vf23
  | 24=>.code fi24 vf24
  | 25=>.code fi25 vf25
  | 26=>.code fi26 vf26
  | 27=>.code fi27 vf27
  | 28=>.code fi28 vf28
  | 30=>.code fi30 vf30
  | 33=>.code fi33 vf33
  | 34=>.code fi34 vf34
  | 35=>.code fi35 vf35
  | 40=>.code fi40 vf40
  | 41=>.code fi41 vf41
  | 42=>.code fi42 vf42
  | 43=>.code fi43 vf43
  | 44=>.code fi44 vf44
  | 45=>.code fi45 vf45
  | 54=>.code fi54 vf54
  | 57=>.code fi57 vf57
  | 58=>.code fi58 vf58
  | 61=>.code fi61 vf61
  | 70=>.code fi70 vf70
  | 78=>.code fi78 vf78
  | 87=>.code fi87 vf87
  | 102=>.code fi102 vf102
  | 12=>.prim (qF gCount _)
  | 13=>.prim (qF gContains _)
  | 14=>.prim (qF gSplit _)
  | 29=>.prim (qF gLower _)
  | 31=>.prim (qF gItoa _)
  | 32=>.prim qJoin
  | 46=>.prim (qF gReplace _)
  | 59=>.prim (qF (gAtoi 126) _)
  | 60=>.prim (qF gCut _)
  | 95=>.prim qIndexByte
  | 103=>.prim (qF gTZ _)
  | _=>.no
end Go.Proofs.YtfglhfbnbdmhfaaDoor
